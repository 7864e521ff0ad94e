/- Functions of the program as plain Lean functions, each with the proof that the call comes to it; written by wip/eng.py. -/
import Derived.Test.YtngcadmhnbpgjaaDoorProg
import Derived.Test.YtngcadmhnbpgjaaDoorEngTab
set_option linter.unusedVariables false
set_option linter.unusedSimpArgs false
set_option maxHeartbeats 4000000
namespace Go.Proofs.YtngcadmhnbpgjaaDoor.Latch
open Go.RowKit Go.Eng
noncomputable def B6 : Code := (Tryd.f6.body).getD .skip
noncomputable def F6 : Fun Tryd.prog := ⟨6, Tryd.f6, B6, 83, Tryd.func6, by kernel_rfl, by kernel_rfl⟩
noncomputable def B7 : Code := (Tryd.f7.body).getD .skip
noncomputable def F7 : Fun Tryd.prog := ⟨7, Tryd.f7, B7, 28, Tryd.func7, by kernel_rfl, by kernel_rfl⟩
noncomputable def B8 : Code := (Tryd.f8.body).getD .skip
noncomputable def F8 : Fun Tryd.prog := ⟨8, Tryd.f8, B8, 24, Tryd.func8, by kernel_rfl, by kernel_rfl⟩
noncomputable def B9 : Code := (Tryd.f9.body).getD .skip
noncomputable def F9 : Fun Tryd.prog := ⟨9, Tryd.f9, B9, 31, Tryd.func9, by kernel_rfl, by kernel_rfl⟩
noncomputable def B10 : Code := (Tryd.f10.body).getD .skip
noncomputable def F10 : Fun Tryd.prog := ⟨10, Tryd.f10, B10, 33, Tryd.func10, by kernel_rfl, by kernel_rfl⟩
noncomputable def B11 : Code := (Tryd.f11.body).getD .skip
noncomputable def F11 : Fun Tryd.prog := ⟨11, Tryd.f11, B11, 30, Tryd.func11, by kernel_rfl, by kernel_rfl⟩
noncomputable def B12 : Code := (Tryd.f12.body).getD .skip
noncomputable def F12 : Fun Tryd.prog := ⟨12, Tryd.f12, B12, 44, Tryd.func12, by kernel_rfl, by kernel_rfl⟩
noncomputable def B13 : Code := (Tryd.f13.body).getD .skip
noncomputable def F13 : Fun Tryd.prog := ⟨13, Tryd.f13, B13, 8, Tryd.func13, by kernel_rfl, by kernel_rfl⟩
noncomputable def B14 : Code := (Tryd.f14.body).getD .skip
noncomputable def F14 : Fun Tryd.prog := ⟨14, Tryd.f14, B14, 11, Tryd.func14, by kernel_rfl, by kernel_rfl⟩
noncomputable def B15 : Code := (Tryd.f15.body).getD .skip
noncomputable def F15 : Fun Tryd.prog := ⟨15, Tryd.f15, B15, 11, Tryd.func15, by kernel_rfl, by kernel_rfl⟩
noncomputable def B16 : Code := (Tryd.f16.body).getD .skip
noncomputable def F16 : Fun Tryd.prog := ⟨16, Tryd.f16, B16, 10, Tryd.func16, by kernel_rfl, by kernel_rfl⟩
noncomputable def B17 : Code := (Tryd.f17.body).getD .skip
noncomputable def F17 : Fun Tryd.prog := ⟨17, Tryd.f17, B17, 10, Tryd.func17, by kernel_rfl, by kernel_rfl⟩
noncomputable def B18 : Code := (Tryd.f18.body).getD .skip
noncomputable def F18 : Fun Tryd.prog := ⟨18, Tryd.f18, B18, 27, Tryd.func18, by kernel_rfl, by kernel_rfl⟩
noncomputable def B19 : Code := (Tryd.f19.body).getD .skip
noncomputable def F19 : Fun Tryd.prog := ⟨19, Tryd.f19, B19, 8, Tryd.func19, by kernel_rfl, by kernel_rfl⟩
def tab_0 : List (Int × Int) := [(0, 0), (0, 4), (4, 4), (8, 4), (12, 1), (14, 1), (15, 1)]
def en_0 : (Int × Int) → List Value := fun x => [.int .i64 x.1, .int .i64 x.2]

/-! ### charabanc/latch.Device (function 7) -/
section
def latch_Device_7.post (M0 : Nat → Prop) (w0 : World) (r : Int × Int) : Ending → World → Prop := fun e w => e = .returned (.tuple #[.int .i64 r.1, .int .i64 r.2]) ∧ Below w0.heap.size w0 w
def latch_Device_7.l0 (K : Nat) (p0 : Int) : Nat → Int → Option (Lp (Int × Int) Unit)
  | 0, _ => none
  | k + 1, t1 => cond (decide (t1 < 7)) (cond (inR t1 7) (Let (fun (t12 : Bool) => cond t12 (some (Lp.ret (t1, (IntKind.wrap .i64 ((IntKind.wrap .i64 p0) - ((rdD tab_0 t1).1)))))) (latch_Device_7.l0 K p0 k (IntKind.wrap .i64 (t1 + 1)))) (fun j15 => cond (decide ((IntKind.wrap .i64 ((IntKind.wrap .i64 p0) - ((rdD tab_0 t1).1))) ≥ 0)) (j15 (decide ((IntKind.wrap .i64 ((IntKind.wrap .i64 p0) - ((rdD tab_0 t1).1))) < ((rdD tab_0 t1).2)))) (j15 false))) none) (some (Lp.go ()))
set_option maxRecDepth 100000 in
theorem latch_Device_7.l0_ok (K : Nat) (M0 : Nat → Prop) (w0 : World) (p0 : Int) (R : Ending → World → Prop) (x : Lp (Int × Int) Unit) (hk0 : ∀ (w1 : World), x = Lp.go () → Holds M0 w0 w1 [cel 0 0 (tab_0.flatMap en_0)] → RunsI F7 [.c 27] [] w1 R) (hk1 : ∀ (t19 : Int) (t20 : Int) (w1 : World), x = Lp.ret (t19, t20) → Holds M0 w0 w1 [cel 0 0 (tab_0.flatMap en_0)] → R (.returned (.tuple #[.int .i64 t19, .int .i64 t20])) w1) :
    ∀ (k : Nat) (t1 : Int) (w : World), latch_Device_7.l0 K p0 k t1 = some x → Holds M0 w0 w [cel 0 0 (tab_0.flatMap en_0)] → RunsI F7 [.c 7, .lp 7, .blk 0, .c 27] [(0, .int .u8 p0), (7, .agg (tab_0.flatMap en_0).toArray), (8, .int .i64 t1)] w R := by
  intro k
  induction k with
  | zero => intro t1 w h hH; exact absurd h (by simp [latch_Device_7.l0])
  | succ k ih =>
    intro t1 w h hH
    rw [latch_Device_7.l0.eq_2] at h
    refine RunsI.go 1 [.c 8, .c 9, .lp 7, .blk 0, .c 27] (by kernel_rfl) ?_
    refine RunsI.region (by kernel_rfl) ?_
    refine RegI.pure 1 [0, 7, 8, 9] [(0, .int .u8 p0), (7, .agg (tab_0.flatMap en_0).toArray), (8, .int .i64 t1), (9, .bool (decide (t1 < 7)))] (by kernel_rfl) ?_
    refine RegI.done (by kernel_rfl) ?_
    refine RunsI.go 1 [.c 10, .c 13, .lp 7, .blk 0, .c 27] (by kernel_rfl) ?_
    rcases of_cond h with ⟨hc2, h⟩ | ⟨hc2, h⟩
    · skip
      refine RunsI.fix 9 true hc2 (by kernel_rfl) (by kernel_rfl) ?_
      refine RunsI.cond true 11 (by kernel_rfl) ?_
      refine RunsI.go 1 [.c 13, .lp 7, .blk 0, .c 27] (by kernel_rfl) ?_
      refine RunsI.go 3 [.c 16, .c 17, .blk 1, .c 26, .lp 7, .blk 0, .c 27] (by kernel_rfl) ?_
      refine RunsI.region (by kernel_rfl) ?_
      refine RegI.pure 1 [0, 7, 8, 10] [(0, .int .u8 p0), (7, .agg (tab_0.flatMap en_0).toArray), (8, .int .i64 t1), (10, .int .i64 t1)] (by kernel_rfl) ?_
      obtain ⟨hc3, h⟩ := of_cond0 h
      refine RegI.op (by kernel_rfl) (OpE.run 11 (by kernel_rfl) (run_indexTab (T0 := 48) (en := en_0) (tab := tab_0) (len := 7) (sz := 2) (j := t1) (v := .agg #[.int .i64 ((rdD tab_0 t1).1), .int .i64 ((rdD tab_0 t1).2)]) (fun _ => rfl) (by kernel_rfl) (by kernel_rfl) rfl hc3 (fun _ => by kernel_rfl)) ?_)
      refine RegI.op (by kernel_rfl) (OpE.box 5 47 [.int .i64 0, .int .i64 0] hH (by kernel_rfl) (by kernel_rfl) ?_)
      intro w4 b5 h6 hb7
      refine RegI.pure 1 [0, 4, 5, 7, 8, 11] [(0, .int .u8 p0), (4, .int .i64 t1), (5, .pointer (some ⟨b5, 0, none⟩)), (7, .agg (tab_0.flatMap en_0).toArray), (8, .int .i64 t1), (11, .agg #[.int .i64 ((rdD tab_0 t1).1), .int .i64 ((rdD tab_0 t1).2)])] (by kernel_rfl) ?_
      refine RegI.op (by kernel_rfl) (OpE.storeBox 1 47 b5 0 (.agg #[.int .i64 ((rdD tab_0 t1).1), .int .i64 ((rdD tab_0 t1).2)]) [.int .i64 ((rdD tab_0 t1).1), .int .i64 ((rdD tab_0 t1).2)] h6 (by kernel_rfl) (by kernel_rfl) rfl (by kernel_rfl) (by kernel_rfl) (by kernel_rfl) ?_)
      intro w8 h9 hk10
      refine RegI.done (by kernel_rfl) ?_
      refine RunsI.go 1 [.c 18, .c 19, .blk 1, .c 26, .lp 7, .blk 0, .c 27] (by kernel_rfl) ?_
      refine RunsI.region (by kernel_rfl) ?_
      refine RegI.pure 3 [0, 4, 5, 7, 8, 13, 14] [(0, .int .u8 p0), (4, .int .i64 t1), (5, .pointer (some ⟨b5, 0, none⟩)), (7, .agg (tab_0.flatMap en_0).toArray), (8, .int .i64 t1), (13, .int .i64 (IntKind.wrap .i64 p0)), (14, .pointer (some ⟨b5, 0, none⟩))] (by kernel_rfl) ?_
      refine RegI.op (by kernel_rfl) (OpE.loadBox 15 1 3 b5 0 (.int .i64 ((rdD tab_0 t1).1)) h9 (by kernel_rfl) (by kernel_rfl) rfl (by kernel_rfl) ?_)
      refine RegI.pure 2 [0, 4, 5, 6, 7, 8] [(0, .int .u8 p0), (4, .int .i64 t1), (5, .pointer (some ⟨b5, 0, none⟩)), (6, .int .i64 (IntKind.wrap .i64 ((IntKind.wrap .i64 p0) - ((rdD tab_0 t1).1)))), (7, .agg (tab_0.flatMap en_0).toArray), (8, .int .i64 t1)] (by kernel_rfl) ?_
      refine RegI.done (by kernel_rfl) ?_
      refine RunsI.go 1 [.c 20, .c 21, .blk 1, .c 26, .lp 7, .blk 0, .c 27] (by kernel_rfl) ?_
      refine RunsI.region (by kernel_rfl) ?_
      refine RegI.pure 3 [0, 4, 5, 6, 7, 8, 19] [(0, .int .u8 p0), (4, .int .i64 t1), (5, .pointer (some ⟨b5, 0, none⟩)), (6, .int .i64 (IntKind.wrap .i64 ((IntKind.wrap .i64 p0) - ((rdD tab_0 t1).1)))), (7, .agg (tab_0.flatMap en_0).toArray), (8, .int .i64 t1), (19, .bool (decide ((IntKind.wrap .i64 ((IntKind.wrap .i64 p0) - ((rdD tab_0 t1).1))) ≥ 0)))] (by kernel_rfl) ?_
      obtain ⟨j15, hJ16, h⟩ := of_let h
      have hj17 : ∀ (t12 : Bool) (w14 : World), j15 t12 = some x → Holds M0 w0 w14 [cel 0 0 (tab_0.flatMap en_0)] → RegI F7 20 [.c 21, .blk 1, .c 26, .lp 7, .blk 0, .c 27] 8 [(0, .int .u8 p0), (4, .int .i64 t1), (6, .int .i64 (IntKind.wrap .i64 ((IntKind.wrap .i64 p0) - ((rdD tab_0 t1).1)))), (7, .agg (tab_0.flatMap en_0).toArray), (8, .int .i64 t1), (24, .bool t12)] w14 R := by
        intro t12 w14 h h13
        rw [hJ16] at h
        clear hJ16
        dsimp only at h
        refine RegI.done (by kernel_rfl) ?_
        rcases of_cond h with ⟨hc18, h⟩ | ⟨hc18, h⟩
        · skip
          refine RunsI.fix 24 true hc18 (by kernel_rfl) (by kernel_rfl) ?_
          refine RunsI.cond true 22 (by kernel_rfl) ?_
          refine RunsI.go 1 [.c 23, .c 24, .blk 1, .c 26, .lp 7, .blk 0, .c 27] (by kernel_rfl) ?_
          refine RunsI.region (by kernel_rfl) ?_
          refine RegI.pure 4 [2, 3] [(2, .int .i64 t1), (3, .int .i64 (IntKind.wrap .i64 ((IntKind.wrap .i64 p0) - ((rdD tab_0 t1).1))))] (by kernel_rfl) ?_
          refine RegI.done (by kernel_rfl) ?_
          refine RunsI.ret (.tuple #[.int .i64 t1, .int .i64 (IntKind.wrap .i64 ((IntKind.wrap .i64 p0) - ((rdD tab_0 t1).1)))]) (by kernel_rfl) (by kernel_rfl) ?_
          exact hk1 t1 (IntKind.wrap .i64 ((IntKind.wrap .i64 p0) - ((rdD tab_0 t1).1))) w14 (Option.some.inj h).symm (h13.pick [0] (by decide))
        · skip
          refine RunsI.fix 24 false hc18 (by kernel_rfl) (by kernel_rfl) ?_
          refine RunsI.cond false 25 (by kernel_rfl) ?_
          refine RunsI.go 1 [.blk 1, .c 26, .lp 7, .blk 0, .c 27] (by kernel_rfl) ?_
          refine RunsI.go 1 [.c 26, .lp 7, .blk 0, .c 27] (by kernel_rfl) ?_
          refine RunsI.region (by kernel_rfl) ?_
          refine RegI.pure 2 [0, 7, 8] [(0, .int .u8 p0), (7, .agg (tab_0.flatMap en_0).toArray), (8, .int .i64 (IntKind.wrap .i64 (t1 + 1)))] (by kernel_rfl) ?_
          refine RegI.done (by kernel_rfl) ?_
          refine RunsI.go 1 [.c 7, .lp 7, .blk 0, .c 27] (by kernel_rfl) ?_
          refine RunsI.only [0, 7, 8] [(0, .int .u8 p0), (7, .agg (tab_0.flatMap en_0).toArray), (8, .int .i64 (IntKind.wrap .i64 (t1 + 1)))] (by kernel_rfl) (by kernel_rfl) ?_
          exact ih (IntKind.wrap .i64 (t1 + 1)) w14 h (h13.pick [0] (by decide))
      clear hJ16
      rcases of_cond h with ⟨hc11, h⟩ | ⟨hc11, h⟩
      · skip
        refine RegI.fix 19 true hc11 (by kernel_rfl) (by kernel_rfl) ?_
        refine RegI.pure 2 [0, 4, 6, 7, 8, 19, 20, 21] [(0, .int .u8 p0), (4, .int .i64 t1), (6, .int .i64 (IntKind.wrap .i64 ((IntKind.wrap .i64 p0) - ((rdD tab_0 t1).1)))), (7, .agg (tab_0.flatMap en_0).toArray), (8, .int .i64 t1), (19, .bool true), (20, .int .i64 (IntKind.wrap .i64 ((IntKind.wrap .i64 p0) - ((rdD tab_0 t1).1)))), (21, .pointer (some ⟨b5, 1, none⟩))] (by kernel_rfl) ?_
        refine RegI.op (by kernel_rfl) (OpE.loadBox 22 1 3 b5 1 (.int .i64 ((rdD tab_0 t1).2)) h9 (by kernel_rfl) (by kernel_rfl) rfl (by kernel_rfl) ?_)
        refine RegI.pure 2 [0, 4, 6, 7, 8, 20, 21, 22, 23, 24] [(0, .int .u8 p0), (4, .int .i64 t1), (6, .int .i64 (IntKind.wrap .i64 ((IntKind.wrap .i64 p0) - ((rdD tab_0 t1).1)))), (7, .agg (tab_0.flatMap en_0).toArray), (8, .int .i64 t1), (20, .int .i64 (IntKind.wrap .i64 ((IntKind.wrap .i64 p0) - ((rdD tab_0 t1).1)))), (21, .pointer (some ⟨b5, 1, none⟩)), (22, .int .i64 ((rdD tab_0 t1).2)), (23, .bool (decide ((IntKind.wrap .i64 ((IntKind.wrap .i64 p0) - ((rdD tab_0 t1).1))) < ((rdD tab_0 t1).2)))), (24, .bool (decide ((IntKind.wrap .i64 ((IntKind.wrap .i64 p0) - ((rdD tab_0 t1).1))) < ((rdD tab_0 t1).2))))] (by kernel_rfl) ?_
        refine RegI.only [0, 4, 6, 7, 8, 24] [(0, .int .u8 p0), (4, .int .i64 t1), (6, .int .i64 (IntKind.wrap .i64 ((IntKind.wrap .i64 p0) - ((rdD tab_0 t1).1)))), (7, .agg (tab_0.flatMap en_0).toArray), (8, .int .i64 t1), (24, .bool (decide ((IntKind.wrap .i64 ((IntKind.wrap .i64 p0) - ((rdD tab_0 t1).1))) < ((rdD tab_0 t1).2))))] (by kernel_rfl) (by kernel_rfl) ?_
        exact hj17 (decide ((IntKind.wrap .i64 ((IntKind.wrap .i64 p0) - ((rdD tab_0 t1).1))) < ((rdD tab_0 t1).2))) w8 h (h9.pick [0] (by decide))
      · skip
        refine RegI.fix 19 false hc11 (by kernel_rfl) (by kernel_rfl) ?_
        refine RegI.pure 5 [0, 4, 6, 7, 8, 20, 21, 22, 23, 24] [(0, .int .u8 p0), (4, .int .i64 t1), (6, .int .i64 (IntKind.wrap .i64 ((IntKind.wrap .i64 p0) - ((rdD tab_0 t1).1)))), (7, .agg (tab_0.flatMap en_0).toArray), (8, .int .i64 t1), (20, undef), (21, undef), (22, undef), (23, undef), (24, .bool false)] (by kernel_rfl) ?_
        refine RegI.only [0, 4, 6, 7, 8, 24] [(0, .int .u8 p0), (4, .int .i64 t1), (6, .int .i64 (IntKind.wrap .i64 ((IntKind.wrap .i64 p0) - ((rdD tab_0 t1).1)))), (7, .agg (tab_0.flatMap en_0).toArray), (8, .int .i64 t1), (24, .bool false)] (by kernel_rfl) (by kernel_rfl) ?_
        exact hj17 false w8 h (h9.pick [0] (by decide))
    · skip
      refine RunsI.fix 9 false hc2 (by kernel_rfl) (by kernel_rfl) ?_
      refine RunsI.cond false 12 (by kernel_rfl) ?_
      refine RunsI.go 1 [.c 27] (by kernel_rfl) ?_
      refine RunsI.only [] [] (by kernel_rfl) (by kernel_rfl) ?_
      exact hk0 w (Option.some.inj h).symm (hH.pick [0] (by decide))
def latch_Device_7.f (K : Nat) (p0 : Int) : Option (Int × Int) := (latch_Device_7.l0 K p0 K 0).bind (fun x21 => Lp.elim x21 (fun yx21 => some (yx21.1, yx21.2)) (fun _ => some (0, 0)))
set_option maxRecDepth 100000 in
theorem latch_Device_7_ok (K : Nat) (M0 : Nat → Prop) (w0 : World) (p0 : Int) (ho : ∀ b, M0 b → b < w0.heap.size) (hG0 : (cel 0 0 (tab_0.flatMap en_0)).ok w0 M0) {r : Int × Int} (h : latch_Device_7.f K p0 = some r) :
    Calls Tryd.prog 7 #[.int .u8 p0] w0 (latch_Device_7.post M0 w0 r) := by
  unfold latch_Device_7.f at h
  have h0 : Holds M0 w0 w0 [] := Holds.start ho
  have h0g0 := h0.add (cel 0 0 (tab_0.flatMap en_0)) rfl ⟨hG0.1, fun hm => hG0.2.1 (hm.elim id (fun hm => absurd hm (by simp [mines, sl, cel]))), hG0.2.2⟩
  have h0 : Holds M0 w0 w0 [cel 0 0 (tab_0.flatMap en_0)] := h0g0
  refine calls_of F7 rfl [.int .u8 p0] (by kernel_rfl) ?_
  refine RunsI.go 1 [.c 1, .c 2] (by kernel_rfl) ?_
  refine RunsI.region (by kernel_rfl) ?_
  refine RegI.pure 2 [0] [(0, .int .u8 p0)] (by kernel_rfl) ?_
  refine RegI.done (by kernel_rfl) ?_
  refine RunsI.go 2 [.c 4, .c 5, .c 27] (by kernel_rfl) ?_
  refine RunsI.region (by kernel_rfl) ?_
  refine RegI.op (by kernel_rfl) (OpE.loadCel 7 0 48 0 0 0 (.agg (tab_0.flatMap en_0).toArray) h0 (by kernel_rfl) (by kernel_rfl) rfl (by kernel_rfl) ?_)
  refine RegI.pure 1 [0, 7, 8] [(0, .int .u8 p0), (7, .agg (tab_0.flatMap en_0).toArray), (8, .int .i64 0)] (by kernel_rfl) ?_
  refine RegI.done (by kernel_rfl) ?_
  refine RunsI.go 2 [.c 7, .lp 7, .blk 0, .c 27] (by kernel_rfl) ?_
  obtain ⟨x21, hx22, h⟩ := of_bind h
  refine RunsI.only [0, 7, 8] [(0, .int .u8 p0), (7, .agg (tab_0.flatMap en_0).toArray), (8, .int .i64 0)] (by kernel_rfl) (by kernel_rfl) ?_
  refine latch_Device_7.l0_ok K M0 w0 p0 _ x21 ?_ ?_ K 0 w0 hx22 (h0.pick [0] (by decide))
  · intro w24 hq29 h23
    (try rw [hq29] at h)
    dsimp only [Lp.elim] at h
    refine RunsI.go 1 [.c 28, .c 29] (by kernel_rfl) ?_
    refine RunsI.region (by kernel_rfl) ?_
    refine RegI.pure 2 [2, 3] [(2, .int .i64 0), (3, .int .i64 0)] (by kernel_rfl) ?_
    refine RegI.done (by kernel_rfl) ?_
    refine RunsI.ret (.tuple #[.int .i64 0, .int .i64 0]) (by kernel_rfl) (by kernel_rfl) ?_
    obtain rfl := Option.some.inj h
    exact ⟨rfl, h23.below⟩
  · intro t25 t26 w28 hq30 h27
    (try rw [hq30] at h)
    dsimp only [Lp.elim] at h
    obtain rfl := Option.some.inj h
    exact ⟨rfl, h27.below⟩
end

/-! ### charabanc/latch.Port (function 9) -/
section
def latch_Port_9.post (M0 : Nat → Prop) (w0 : World) (r : Int × Bool) : Ending → World → Prop := fun e w => e = .returned (.tuple #[.int .u8 r.1, .bool r.2]) ∧ Below w0.heap.size w0 w
def latch_Port_9.f (K : Nat) (p0 : Int) (p1 : Int) : Option (Int × Bool) := Let (fun (t5 : Bool) => cond t5 (some (0, false)) (cond (inR p0 7) (some ((IntKind.wrap .u8 (IntKind.wrap .i64 (((rdD tab_0 p0).1) + p1))), true)) none)) (fun j8 => cond (decide (p0 < 0)) (j8 true) (cond (decide (p0 ≥ 7)) (j8 true) (cond (decide (p1 < 0)) (j8 true) (cond (inR p0 7) (j8 (decide (p1 ≥ ((rdD tab_0 p0).2)))) none))))
set_option maxRecDepth 100000 in
theorem latch_Port_9_ok (K : Nat) (M0 : Nat → Prop) (w0 : World) (p0 : Int) (p1 : Int) (ho : ∀ b, M0 b → b < w0.heap.size) (hG0 : (cel 0 0 (tab_0.flatMap en_0)).ok w0 M0) {r : Int × Bool} (h : latch_Port_9.f K p0 p1 = some r) :
    Calls Tryd.prog 9 #[.int .i64 p0, .int .i64 p1] w0 (latch_Port_9.post M0 w0 r) := by
  unfold latch_Port_9.f at h
  have h0 : Holds M0 w0 w0 [] := Holds.start ho
  have h0g0 := h0.add (cel 0 0 (tab_0.flatMap en_0)) rfl ⟨hG0.1, fun hm => hG0.2.1 (hm.elim id (fun hm => absurd hm (by simp [mines, sl, cel]))), hG0.2.2⟩
  have h0 : Holds M0 w0 w0 [cel 0 0 (tab_0.flatMap en_0)] := h0g0
  refine calls_of F9 rfl [.int .i64 p0, .int .i64 p1] (by kernel_rfl) ?_
  refine RunsI.go 1 [.c 1, .c 2] (by kernel_rfl) ?_
  refine RunsI.region (by kernel_rfl) ?_
  refine RegI.pure 2 [0, 1] [(0, .int .i64 p0), (1, .int .i64 p1)] (by kernel_rfl) ?_
  refine RegI.done (by kernel_rfl) ?_
  refine RunsI.go 2 [.c 4, .c 5, .c 10] (by kernel_rfl) ?_
  refine RunsI.region (by kernel_rfl) ?_
  refine RegI.pure 3 [0, 1, 8] [(0, .int .i64 p0), (1, .int .i64 p1), (8, .bool (decide (p0 < 0)))] (by kernel_rfl) ?_
  obtain ⟨j8, hJ9, h⟩ := of_let h
  have hj10 : ∀ (t5 : Bool) (w7 : World), j8 t5 = some r → Holds M0 w0 w7 [cel 0 0 (tab_0.flatMap en_0)] → RegI F9 4 [.c 5, .c 10] 18 [(0, .int .i64 p0), (1, .int .i64 p1), (23, .bool t5)] w7 (latch_Port_9.post M0 w0 r) := by
    intro t5 w7 h h6
    rw [hJ9] at h
    clear hJ9
    dsimp only at h
    refine RegI.done (by kernel_rfl) ?_
    rcases of_cond h with ⟨hc11, h⟩ | ⟨hc11, h⟩
    · skip
      refine RunsI.fix 23 true hc11 (by kernel_rfl) (by kernel_rfl) ?_
      refine RunsI.cond true 6 (by kernel_rfl) ?_
      refine RunsI.go 1 [.c 7, .c 8, .c 10] (by kernel_rfl) ?_
      refine RunsI.region (by kernel_rfl) ?_
      refine RegI.pure 2 [4, 5] [(4, .int .u8 0), (5, .bool false)] (by kernel_rfl) ?_
      refine RegI.done (by kernel_rfl) ?_
      refine RunsI.ret (.tuple #[.int .u8 0, .bool false]) (by kernel_rfl) (by kernel_rfl) ?_
      obtain rfl := Option.some.inj h
      exact ⟨rfl, h6.below⟩
    · skip
      refine RunsI.fix 23 false hc11 (by kernel_rfl) (by kernel_rfl) ?_
      refine RunsI.cond false 9 (by kernel_rfl) ?_
      refine RunsI.go 1 [.c 10] (by kernel_rfl) ?_
      refine RunsI.go 1 [.c 11, .c 12] (by kernel_rfl) ?_
      refine RunsI.region (by kernel_rfl) ?_
      refine RegI.pure 1 [1, 24] [(1, .int .i64 p1), (24, .int .i64 p0)] (by kernel_rfl) ?_
      obtain ⟨hc12, h⟩ := of_cond0 h
      refine RegI.op (by kernel_rfl) (OpE.run 25 (by kernel_rfl) (run_idxArr (T := 48) (b := 0) (o := 0) (ix := p0) (len := 7) (s := 2) (by kernel_rfl) (by kernel_rfl) hc12) ?_)
      refine RegI.pure 1 [1, 26] [(1, .int .i64 p1), (26, .pointer (some ⟨0, 0 + (Int.toNat p0) * 2, none⟩))] (by kernel_rfl) ?_
      refine RegI.op (by kernel_rfl) (OpE.loadTab 27 0 3 en_0 tab_0 0 2 p0 (.int .i64 ((rdD tab_0 p0).1)) (o := 0 + (Int.toNat p0) * 2 + 0) h6 (by kernel_rfl) rfl (fun _ => rfl) (by kernel_rfl) (by omega) hc12 (fun _ => by kernel_rfl) ?_)
      refine RegI.pure 5 [4, 5] [(4, .int .u8 (IntKind.wrap .u8 (IntKind.wrap .i64 (((rdD tab_0 p0).1) + p1)))), (5, .bool true)] (by kernel_rfl) ?_
      refine RegI.done (by kernel_rfl) ?_
      refine RunsI.ret (.tuple #[.int .u8 (IntKind.wrap .u8 (IntKind.wrap .i64 (((rdD tab_0 p0).1) + p1))), .bool true]) (by kernel_rfl) (by kernel_rfl) ?_
      obtain rfl := Option.some.inj h
      exact ⟨rfl, h6.below⟩
  clear hJ9
  rcases of_cond h with ⟨hc1, h⟩ | ⟨hc1, h⟩
  · skip
    refine RegI.fix 8 true hc1 (by kernel_rfl) (by kernel_rfl) ?_
    refine RegI.pure 15 [0, 1, 23] [(0, .int .i64 p0), (1, .int .i64 p1), (23, .bool true)] (by kernel_rfl) ?_
    refine RegI.only [0, 1, 23] [(0, .int .i64 p0), (1, .int .i64 p1), (23, .bool true)] (by kernel_rfl) (by kernel_rfl) ?_
    exact hj10 true w0 h (h0.pick [0] (by decide))
  · skip
    refine RegI.fix 8 false hc1 (by kernel_rfl) (by kernel_rfl) ?_
    refine RegI.pure 4 [0, 1, 12] [(0, .int .i64 p0), (1, .int .i64 p1), (12, .bool (decide (p0 ≥ 7)))] (by kernel_rfl) ?_
    rcases of_cond h with ⟨hc2, h⟩ | ⟨hc2, h⟩
    · skip
      refine RegI.fix 12 true hc2 (by kernel_rfl) (by kernel_rfl) ?_
      refine RegI.pure 11 [0, 1, 23] [(0, .int .i64 p0), (1, .int .i64 p1), (23, .bool true)] (by kernel_rfl) ?_
      refine RegI.only [0, 1, 23] [(0, .int .i64 p0), (1, .int .i64 p1), (23, .bool true)] (by kernel_rfl) (by kernel_rfl) ?_
      exact hj10 true w0 h (h0.pick [0] (by decide))
    · skip
      refine RegI.fix 12 false hc2 (by kernel_rfl) (by kernel_rfl) ?_
      refine RegI.pure 4 [0, 1, 16] [(0, .int .i64 p0), (1, .int .i64 p1), (16, .bool (decide (p1 < 0)))] (by kernel_rfl) ?_
      rcases of_cond h with ⟨hc3, h⟩ | ⟨hc3, h⟩
      · skip
        refine RegI.fix 16 true hc3 (by kernel_rfl) (by kernel_rfl) ?_
        refine RegI.pure 7 [0, 1, 23] [(0, .int .i64 p0), (1, .int .i64 p1), (23, .bool true)] (by kernel_rfl) ?_
        refine RegI.only [0, 1, 23] [(0, .int .i64 p0), (1, .int .i64 p1), (23, .bool true)] (by kernel_rfl) (by kernel_rfl) ?_
        exact hj10 true w0 h (h0.pick [0] (by decide))
      · skip
        refine RegI.fix 16 false hc3 (by kernel_rfl) (by kernel_rfl) ?_
        refine RegI.pure 2 [0, 1, 16, 17, 18] [(0, .int .i64 p0), (1, .int .i64 p1), (16, .bool false), (17, .int .i64 p1), (18, .int .i64 p0)] (by kernel_rfl) ?_
        obtain ⟨hc4, h⟩ := of_cond0 h
        refine RegI.op (by kernel_rfl) (OpE.run 19 (by kernel_rfl) (run_idxArr (T := 48) (b := 0) (o := 0) (ix := p0) (len := 7) (s := 2) (by kernel_rfl) (by kernel_rfl) hc4) ?_)
        refine RegI.pure 1 [0, 1, 16, 17, 20] [(0, .int .i64 p0), (1, .int .i64 p1), (16, .bool false), (17, .int .i64 p1), (20, .pointer (some ⟨0, 0 + (Int.toNat p0) * 2 + 1, none⟩))] (by kernel_rfl) ?_
        refine RegI.op (by kernel_rfl) (OpE.loadTab 21 0 3 en_0 tab_0 1 2 p0 (.int .i64 ((rdD tab_0 p0).2)) (o := 0 + (Int.toNat p0) * 2 + 1) h0 (by kernel_rfl) rfl (fun _ => rfl) (by kernel_rfl) (by omega) hc4 (fun _ => by kernel_rfl) ?_)
        refine RegI.pure 2 [0, 1, 23] [(0, .int .i64 p0), (1, .int .i64 p1), (23, .bool (decide (p1 ≥ ((rdD tab_0 p0).2))))] (by kernel_rfl) ?_
        refine RegI.only [0, 1, 23] [(0, .int .i64 p0), (1, .int .i64 p1), (23, .bool (decide (p1 ≥ ((rdD tab_0 p0).2))))] (by kernel_rfl) (by kernel_rfl) ?_
        exact hj10 (decide (p1 ≥ ((rdD tab_0 p0).2))) w0 h (h0.pick [0] (by decide))
end

/-! ### charabanc/latch.Read (function 14) -/
section
def latch_Read_14.post (M0 : Nat → Prop) (w0 : World) (r : Bool × Int × Int) : Ending → World → Prop := fun e w => e = .returned (.tuple #[.agg #[.bool r.1, .int .i64 r.2.1], .int .u8 r.2.2]) ∧ Below w0.heap.size w0 w
def latch_Read_14.f (K : Nat) (p0_0 : Bool) (p0_1 : Int) (p1 : Int) : Option (Bool × Int × Int) := cond p0_0 (some (p0_0, p0_1, 255)) (some (true, p1, 0))
set_option maxRecDepth 100000 in
theorem latch_Read_14_ok (K : Nat) (M0 : Nat → Prop) (w0 : World) (p0_0 : Bool) (p0_1 : Int) (p1 : Int) (ho : ∀ b, M0 b → b < w0.heap.size) {r : Bool × Int × Int} (h : latch_Read_14.f K p0_0 p0_1 p1 = some r) :
    Calls Tryd.prog 14 #[.agg #[.bool p0_0, .int .i64 p0_1], .int .i64 p1] w0 (latch_Read_14.post M0 w0 r) := by
  unfold latch_Read_14.f at h
  have h0 : Holds M0 w0 w0 [] := Holds.start ho
  have h0 : Holds M0 w0 w0 [] := h0
  refine calls_of F14 rfl [.agg #[.bool p0_0, .int .i64 p0_1], .int .i64 p1] (by kernel_rfl) ?_
  refine RunsI.go 1 [.c 1, .c 2] (by kernel_rfl) ?_
  refine RunsI.region (by kernel_rfl) ?_
  refine RegI.op (by kernel_rfl) (OpE.box 2 29 [.bool p0_0, .int .i64 p0_1] h0 (by kernel_rfl) (by kernel_rfl) ?_)
  intro w1 b2 h3 hb4
  refine RegI.op (by kernel_rfl) (OpE.box 4 29 [.bool false, .int .i64 0] h3 (by kernel_rfl) (by kernel_rfl) ?_)
  intro w5 b6 h7 hb8
  refine RegI.pure 1 [1, 2, 4] [(1, .int .i64 p1), (2, .pointer (some ⟨b2, 0, none⟩)), (4, .pointer (some ⟨b6, 0, none⟩))] (by kernel_rfl) ?_
  refine RegI.done (by kernel_rfl) ?_
  refine RunsI.go 2 [.c 4, .c 5, .c 10] (by kernel_rfl) ?_
  refine RunsI.region (by kernel_rfl) ?_
  refine RegI.pure 1 [1, 2, 4, 6] [(1, .int .i64 p1), (2, .pointer (some ⟨b2, 0, none⟩)), (4, .pointer (some ⟨b6, 0, none⟩)), (6, .pointer (some ⟨b2, 0, none⟩))] (by kernel_rfl) ?_
  refine RegI.op (by kernel_rfl) (OpE.loadBox 7 0 4 b2 0 (.bool p0_0) h7 (by kernel_rfl) (by kernel_rfl) rfl (by kernel_rfl) ?_)
  refine RegI.done (by kernel_rfl) ?_
  rcases of_cond h with ⟨hc9, h⟩ | ⟨hc9, h⟩
  · skip
    refine RunsI.fix 7 true hc9 (by kernel_rfl) (by kernel_rfl) ?_
    refine RunsI.cond true 6 (by kernel_rfl) ?_
    refine RunsI.go 1 [.c 7, .c 8, .c 10] (by kernel_rfl) ?_
    refine RunsI.region (by kernel_rfl) ?_
    refine RegI.op (by kernel_rfl) (OpE.loadBox 8 0 29 b2 0 (.agg #[.bool p0_0, .int .i64 p0_1]) h7 (by kernel_rfl) (by kernel_rfl) rfl (by kernel_rfl) ?_)
    refine RegI.op (by kernel_rfl) (OpE.storeBox 1 29 b6 0 (.agg #[.bool p0_0, .int .i64 p0_1]) [.bool p0_0, .int .i64 p0_1] h7 (by kernel_rfl) (by kernel_rfl) rfl (by kernel_rfl) (by kernel_rfl) (by kernel_rfl) ?_)
    intro w10 h11 hk12
    refine RegI.pure 1 [4, 5] [(4, .pointer (some ⟨b6, 0, none⟩)), (5, .int .u8 255)] (by kernel_rfl) ?_
    refine RegI.done (by kernel_rfl) ?_
    refine RunsI.retW [.cell 4 29, .tmp 5] [.agg #[.bool p0_0, .int .i64 p0_1], .int .u8 255] (.tuple #[.agg #[.bool p0_0, .int .i64 p0_1], .int .u8 255]) (by kernel_rfl) (by kernel_rfl) (ResAt.box 1 29 b6 0 h11 (by kernel_rfl) (by kernel_rfl) rfl (by kernel_rfl) (ResAt.tmp (by kernel_rfl) (by kernel_rfl) rfl)) (by kernel_rfl) ?_
    obtain rfl := Option.some.inj h
    exact ⟨rfl, h11.below⟩
  · skip
    refine RunsI.fix 7 false hc9 (by kernel_rfl) (by kernel_rfl) ?_
    refine RunsI.cond false 9 (by kernel_rfl) ?_
    refine RunsI.go 1 [.c 10] (by kernel_rfl) ?_
    refine RunsI.go 1 [.c 11, .c 12] (by kernel_rfl) ?_
    refine RunsI.region (by kernel_rfl) ?_
    refine RegI.pure 2 [4, 10] [(4, .pointer (some ⟨b6, 0, none⟩)), (10, .agg #[.bool true, .int .i64 p1])] (by kernel_rfl) ?_
    refine RegI.op (by kernel_rfl) (OpE.storeBox 1 29 b6 0 (.agg #[.bool true, .int .i64 p1]) [.bool true, .int .i64 p1] h7 (by kernel_rfl) (by kernel_rfl) rfl (by kernel_rfl) (by kernel_rfl) (by kernel_rfl) ?_)
    intro w13 h14 hk15
    refine RegI.pure 1 [4, 5] [(4, .pointer (some ⟨b6, 0, none⟩)), (5, .int .u8 0)] (by kernel_rfl) ?_
    refine RegI.done (by kernel_rfl) ?_
    refine RunsI.retW [.cell 4 29, .tmp 5] [.agg #[.bool true, .int .i64 p1], .int .u8 0] (.tuple #[.agg #[.bool true, .int .i64 p1], .int .u8 0]) (by kernel_rfl) (by kernel_rfl) (ResAt.box 1 29 b6 0 h14 (by kernel_rfl) (by kernel_rfl) rfl (by kernel_rfl) (ResAt.tmp (by kernel_rfl) (by kernel_rfl) rfl)) (by kernel_rfl) ?_
    obtain rfl := Option.some.inj h
    exact ⟨rfl, h14.below⟩
end

/-! ### charabanc/latch.Write (function 16) -/
section
def latch_Write_16.post (M0 : Nat → Prop) (w0 : World) (r : Bool × Int) : Ending → World → Prop := fun e w => e = .returned (.agg #[.bool r.1, .int .i64 r.2]) ∧ Below w0.heap.size w0 w
def latch_Write_16.f (K : Nat) (p0_0 : Bool) (p0_1 : Int) (p1 : Int) : Option (Bool × Int) := cond ((band .u8 p1 1) == 0) (some (false, 0)) (some (p0_0, p0_1))
set_option maxRecDepth 100000 in
theorem latch_Write_16_ok (K : Nat) (M0 : Nat → Prop) (w0 : World) (p0_0 : Bool) (p0_1 : Int) (p1 : Int) (ho : ∀ b, M0 b → b < w0.heap.size) {r : Bool × Int} (h : latch_Write_16.f K p0_0 p0_1 p1 = some r) :
    Calls Tryd.prog 16 #[.agg #[.bool p0_0, .int .i64 p0_1], .int .u8 p1] w0 (latch_Write_16.post M0 w0 r) := by
  unfold latch_Write_16.f at h
  have h0 : Holds M0 w0 w0 [] := Holds.start ho
  have h0 : Holds M0 w0 w0 [] := h0
  refine calls_of F16 rfl [.agg #[.bool p0_0, .int .i64 p0_1], .int .u8 p1] (by kernel_rfl) ?_
  refine RunsI.go 1 [.c 1, .c 2] (by kernel_rfl) ?_
  refine RunsI.region (by kernel_rfl) ?_
  refine RegI.op (by kernel_rfl) (OpE.box 2 29 [.bool p0_0, .int .i64 p0_1] h0 (by kernel_rfl) (by kernel_rfl) ?_)
  intro w1 b2 h3 hb4
  refine RegI.op (by kernel_rfl) (OpE.box 4 29 [.bool false, .int .i64 0] h3 (by kernel_rfl) (by kernel_rfl) ?_)
  intro w5 b6 h7 hb8
  refine RegI.done (by kernel_rfl) ?_
  refine RunsI.go 2 [.c 4, .c 5, .c 10] (by kernel_rfl) ?_
  refine RunsI.region (by kernel_rfl) ?_
  refine RegI.pure 3 [2, 4, 7] [(2, .pointer (some ⟨b2, 0, none⟩)), (4, .pointer (some ⟨b6, 0, none⟩)), (7, .bool ((band .u8 p1 1) == 0))] (by kernel_rfl) ?_
  refine RegI.done (by kernel_rfl) ?_
  rcases of_cond h with ⟨hc9, h⟩ | ⟨hc9, h⟩
  · skip
    refine RunsI.fix 7 true hc9 (by kernel_rfl) (by kernel_rfl) ?_
    refine RunsI.cond true 6 (by kernel_rfl) ?_
    refine RunsI.go 1 [.c 7, .c 8, .c 10] (by kernel_rfl) ?_
    refine RunsI.region (by kernel_rfl) ?_
    refine RegI.pure 1 [4, 8] [(4, .pointer (some ⟨b6, 0, none⟩)), (8, .agg #[.bool false, .int .i64 0])] (by kernel_rfl) ?_
    refine RegI.op (by kernel_rfl) (OpE.storeBox 1 29 b6 0 (.agg #[.bool false, .int .i64 0]) [.bool false, .int .i64 0] h7 (by kernel_rfl) (by kernel_rfl) rfl (by kernel_rfl) (by kernel_rfl) (by kernel_rfl) ?_)
    intro w10 h11 hk12
    refine RegI.done (by kernel_rfl) ?_
    refine RunsI.retW [.cell 4 29] [.agg #[.bool false, .int .i64 0]] (.agg #[.bool false, .int .i64 0]) (by kernel_rfl) (by kernel_rfl) (ResAt.box 1 29 b6 0 h11 (by kernel_rfl) (by kernel_rfl) rfl (by kernel_rfl) rfl) (by kernel_rfl) ?_
    obtain rfl := Option.some.inj h
    exact ⟨rfl, h11.below⟩
  · skip
    refine RunsI.fix 7 false hc9 (by kernel_rfl) (by kernel_rfl) ?_
    refine RunsI.cond false 9 (by kernel_rfl) ?_
    refine RunsI.go 1 [.c 10] (by kernel_rfl) ?_
    refine RunsI.go 1 [.c 11, .c 12] (by kernel_rfl) ?_
    refine RunsI.region (by kernel_rfl) ?_
    refine RegI.op (by kernel_rfl) (OpE.loadBox 9 0 29 b2 0 (.agg #[.bool p0_0, .int .i64 p0_1]) h7 (by kernel_rfl) (by kernel_rfl) rfl (by kernel_rfl) ?_)
    refine RegI.op (by kernel_rfl) (OpE.storeBox 1 29 b6 0 (.agg #[.bool p0_0, .int .i64 p0_1]) [.bool p0_0, .int .i64 p0_1] h7 (by kernel_rfl) (by kernel_rfl) rfl (by kernel_rfl) (by kernel_rfl) (by kernel_rfl) ?_)
    intro w13 h14 hk15
    refine RegI.done (by kernel_rfl) ?_
    refine RunsI.retW [.cell 4 29] [.agg #[.bool p0_0, .int .i64 p0_1]] (.agg #[.bool p0_0, .int .i64 p0_1]) (by kernel_rfl) (by kernel_rfl) (ResAt.box 1 29 b6 0 h14 (by kernel_rfl) (by kernel_rfl) rfl (by kernel_rfl) rfl) (by kernel_rfl) ?_
    obtain rfl := Option.some.inj h
    exact ⟨rfl, h14.below⟩
end

/-! ### (charabanc/latch.Latch).act (function 18) -/
section
def latch_Latch_act_18.post (M0 : Nat → Prop) (w0 : World) (r : Bool × Int × (List Int)) : Ending → World → Prop := fun e w => ∃ (A3 : Option Addr) (c3 : Nat), e = .returned (.tuple #[.agg #[.bool r.1, .int .i64 r.2.1], .slice A3 r.2.2.length c3]) ∧ Holds M0 w0 w [own (Rp.int .u8) 5 (.slice A3 r.2.2.length c3) r.2.2]
def latch_Latch_act_18.f (K : Nat) (p0_0 : Bool) (p0_1 : Int) (p1 : Int) : Option (Bool × Int × (List Int)) := cond (p1 == 0) ((latch_Write_16.f K p0_0 p0_1 0).bind fun yt14 => some (yt14.1, yt14.2, ([] : List Int))) (cond (decide (p1 < 0)) ((latch_Write_16.f K p0_0 p0_1 1).bind fun yt24 => some (yt24.1, yt24.2, ([] : List Int))) ((latch_Read_14.f K p0_0 p0_1 p1).bind fun yt33 => some (yt33.1, yt33.2.1, [yt33.2.2])))
set_option maxRecDepth 100000 in
theorem latch_Latch_act_18_ok (K : Nat) (M0 : Nat → Prop) (w0 : World) (p0_0 : Bool) (p0_1 : Int) (p1 : Int) (ho : ∀ b, M0 b → b < w0.heap.size) {r : Bool × Int × (List Int)} (h : latch_Latch_act_18.f K p0_0 p0_1 p1 = some r) :
    Calls Tryd.prog 18 #[.agg #[.bool p0_0, .int .i64 p0_1], .int .i64 p1] w0 (latch_Latch_act_18.post M0 w0 r) := by
  unfold latch_Latch_act_18.f at h
  have h0 : Holds M0 w0 w0 [] := Holds.start ho
  have h0 : Holds M0 w0 w0 [] := h0
  refine calls_of F18 rfl [.agg #[.bool p0_0, .int .i64 p0_1], .int .i64 p1] (by kernel_rfl) ?_
  refine RunsI.go 1 [.c 1, .c 2] (by kernel_rfl) ?_
  refine RunsI.region (by kernel_rfl) ?_
  refine RegI.op (by kernel_rfl) (OpE.box 2 29 [.bool p0_0, .int .i64 p0_1] h0 (by kernel_rfl) (by kernel_rfl) ?_)
  intro w1 b2 h3 hb4
  refine RegI.op (by kernel_rfl) (OpE.box 4 29 [.bool false, .int .i64 0] h3 (by kernel_rfl) (by kernel_rfl) ?_)
  intro w5 b6 h7 hb8
  refine RegI.pure 1 [1, 2, 4] [(1, .int .i64 p1), (2, .pointer (some ⟨b2, 0, none⟩)), (4, .pointer (some ⟨b6, 0, none⟩))] (by kernel_rfl) ?_
  refine RegI.done (by kernel_rfl) ?_
  refine RunsI.go 3 [.c 5, .c 6, .blk 0, .c 17] (by kernel_rfl) ?_
  refine RunsI.region (by kernel_rfl) ?_
  refine RegI.pure 3 [1, 2, 4, 8] [(1, .int .i64 p1), (2, .pointer (some ⟨b2, 0, none⟩)), (4, .pointer (some ⟨b6, 0, none⟩)), (8, .bool (p1 == 0))] (by kernel_rfl) ?_
  refine RegI.done (by kernel_rfl) ?_
  rcases of_cond h with ⟨hc9, h⟩ | ⟨hc9, h⟩
  · skip
    refine RunsI.fix 8 true hc9 (by kernel_rfl) (by kernel_rfl) ?_
    refine RunsI.cond true 7 (by kernel_rfl) ?_
    refine RunsI.go 1 [.c 8, .c 9, .blk 0, .c 17] (by kernel_rfl) ?_
    refine RunsI.region (by kernel_rfl) ?_
    refine RegI.op (by kernel_rfl) (OpE.loadBox 11 0 29 b2 0 (.agg #[.bool p0_0, .int .i64 p0_1]) h7 (by kernel_rfl) (by kernel_rfl) rfl (by kernel_rfl) ?_)
    obtain ⟨⟨t14, t15⟩, hg13, h⟩ := of_bind h
    dsimp only at h
    refine RegI.op (by kernel_rfl) (OpE.call 12 (by kernel_rfl) 16 #[.agg #[.bool p0_0, .int .i64 p0_1], .int .u8 0] (by kernel_rfl) ((latch_Write_16_ok K _ w5  p0_0 p0_1 0 h7.old' hg13).mono ?_))
    rintro _ w10 ⟨rfl, hb11⟩
    refine ⟨_, rfl, ?_⟩
    have h12 := h7.call hb11
    refine RegI.op (by kernel_rfl) (OpE.storeBox 1 29 b6 0 (.agg #[.bool t14, .int .i64 t15]) [.bool t14, .int .i64 t15] h12 (by kernel_rfl) (by kernel_rfl) rfl (by kernel_rfl) (by kernel_rfl) (by kernel_rfl) ?_)
    intro w16 h17 hk18
    refine RegI.pure 1 [4, 5] [(4, .pointer (some ⟨b6, 0, none⟩)), (5, .slice none 0 0)] (by kernel_rfl) ?_
    refine RegI.done (by kernel_rfl) ?_
    refine RunsI.retW [.cell 4 29, .tmp 5] [.agg #[.bool t14, .int .i64 t15], .slice none 0 0] (.tuple #[.agg #[.bool t14, .int .i64 t15], .slice none 0 0]) (by kernel_rfl) (by kernel_rfl) (ResAt.box 1 29 b6 0 h17 (by kernel_rfl) (by kernel_rfl) rfl (by kernel_rfl) (ResAt.tmp (by kernel_rfl) (by kernel_rfl) rfl)) (by kernel_rfl) ?_
    have h50 := h17.addOwnNil (Rp.int .u8) 5
    obtain rfl := Option.some.inj h
    exact ⟨none, 0, rfl, h50.pick [2] (by decide)⟩
  · skip
    refine RunsI.fix 8 false hc9 (by kernel_rfl) (by kernel_rfl) ?_
    refine RunsI.cond false 10 (by kernel_rfl) ?_
    refine RunsI.go 1 [.c 11, .c 12, .blk 0, .c 17] (by kernel_rfl) ?_
    refine RunsI.region (by kernel_rfl) ?_
    refine RegI.pure 3 [1, 2, 4, 13] [(1, .int .i64 p1), (2, .pointer (some ⟨b2, 0, none⟩)), (4, .pointer (some ⟨b6, 0, none⟩)), (13, .bool (decide (p1 < 0)))] (by kernel_rfl) ?_
    refine RegI.done (by kernel_rfl) ?_
    rcases of_cond h with ⟨hc19, h⟩ | ⟨hc19, h⟩
    · skip
      refine RunsI.fix 13 true hc19 (by kernel_rfl) (by kernel_rfl) ?_
      refine RunsI.cond true 13 (by kernel_rfl) ?_
      refine RunsI.go 1 [.c 14, .c 15, .blk 0, .c 17] (by kernel_rfl) ?_
      refine RunsI.region (by kernel_rfl) ?_
      refine RegI.op (by kernel_rfl) (OpE.loadBox 16 0 29 b2 0 (.agg #[.bool p0_0, .int .i64 p0_1]) h7 (by kernel_rfl) (by kernel_rfl) rfl (by kernel_rfl) ?_)
      obtain ⟨⟨t24, t25⟩, hg23, h⟩ := of_bind h
      dsimp only at h
      refine RegI.op (by kernel_rfl) (OpE.call 17 (by kernel_rfl) 16 #[.agg #[.bool p0_0, .int .i64 p0_1], .int .u8 1] (by kernel_rfl) ((latch_Write_16_ok K _ w5  p0_0 p0_1 1 h7.old' hg23).mono ?_))
      rintro _ w20 ⟨rfl, hb21⟩
      refine ⟨_, rfl, ?_⟩
      have h22 := h7.call hb21
      refine RegI.op (by kernel_rfl) (OpE.storeBox 1 29 b6 0 (.agg #[.bool t24, .int .i64 t25]) [.bool t24, .int .i64 t25] h22 (by kernel_rfl) (by kernel_rfl) rfl (by kernel_rfl) (by kernel_rfl) (by kernel_rfl) ?_)
      intro w26 h27 hk28
      refine RegI.pure 1 [4, 5] [(4, .pointer (some ⟨b6, 0, none⟩)), (5, .slice none 0 0)] (by kernel_rfl) ?_
      refine RegI.done (by kernel_rfl) ?_
      refine RunsI.retW [.cell 4 29, .tmp 5] [.agg #[.bool t24, .int .i64 t25], .slice none 0 0] (.tuple #[.agg #[.bool t24, .int .i64 t25], .slice none 0 0]) (by kernel_rfl) (by kernel_rfl) (ResAt.box 1 29 b6 0 h27 (by kernel_rfl) (by kernel_rfl) rfl (by kernel_rfl) (ResAt.tmp (by kernel_rfl) (by kernel_rfl) rfl)) (by kernel_rfl) ?_
      have h51 := h27.addOwnNil (Rp.int .u8) 5
      obtain rfl := Option.some.inj h
      exact ⟨none, 0, rfl, h51.pick [2] (by decide)⟩
    · skip
      refine RunsI.fix 13 false hc19 (by kernel_rfl) (by kernel_rfl) ?_
      refine RunsI.cond false 16 (by kernel_rfl) ?_
      refine RunsI.go 1 [.blk 0, .c 17] (by kernel_rfl) ?_
      refine RunsI.go 2 [.c 18, .c 19] (by kernel_rfl) ?_
      refine RunsI.region (by kernel_rfl) ?_
      refine RegI.op (by kernel_rfl) (OpE.loadBox 19 0 29 b2 0 (.agg #[.bool p0_0, .int .i64 p0_1]) h7 (by kernel_rfl) (by kernel_rfl) rfl (by kernel_rfl) ?_)
      refine RegI.pure 1 [4, 19, 20] [(4, .pointer (some ⟨b6, 0, none⟩)), (19, .agg #[.bool p0_0, .int .i64 p0_1]), (20, .int .i64 p1)] (by kernel_rfl) ?_
      obtain ⟨⟨t33, t34, t35⟩, hg32, h⟩ := of_bind h
      dsimp only at h
      refine RegI.op (by kernel_rfl) (OpE.call 21 (by kernel_rfl) 14 #[.agg #[.bool p0_0, .int .i64 p0_1], .int .i64 p1] (by kernel_rfl) ((latch_Read_14_ok K _ w5  p0_0 p0_1 p1 h7.old' hg32).mono ?_))
      rintro _ w29 ⟨rfl, hb30⟩
      refine ⟨_, rfl, ?_⟩
      have h31 := h7.call hb30
      refine RegI.pure 3 [4, 22, 23] [(4, .pointer (some ⟨b6, 0, none⟩)), (22, .agg #[.bool t33, .int .i64 t34]), (23, .int .u8 t35)] (by kernel_rfl) ?_
      refine RegI.op (by kernel_rfl) (OpE.box 6 29 [.bool false, .int .i64 0] h31 (by kernel_rfl) (by kernel_rfl) ?_)
      intro w36 b37 h38 hb39
      refine RegI.op (by kernel_rfl) (OpE.storeBox 2 29 b37 0 (.agg #[.bool t33, .int .i64 t34]) [.bool t33, .int .i64 t34] h38 (by kernel_rfl) (by kernel_rfl) rfl (by kernel_rfl) (by kernel_rfl) (by kernel_rfl) ?_)
      intro w40 h41 hk42
      refine RegI.pure 1 [4, 6, 7] [(4, .pointer (some ⟨b6, 0, none⟩)), (6, .pointer (some ⟨b37, 0, none⟩)), (7, .int .u8 t35)] (by kernel_rfl) ?_
      refine RegI.done (by kernel_rfl) ?_
      refine RunsI.go 1 [.c 20, .c 21] (by kernel_rfl) ?_
      refine RunsI.region (by kernel_rfl) ?_
      refine RegI.op (by kernel_rfl) (OpE.loadBox 24 2 29 b37 0 (.agg #[.bool t33, .int .i64 t34]) h41 (by kernel_rfl) (by kernel_rfl) rfl (by kernel_rfl) ?_)
      refine RegI.pure 1 [4, 24, 25] [(4, .pointer (some ⟨b6, 0, none⟩)), (24, .agg #[.bool t33, .int .i64 t34]), (25, .int .u8 t35)] (by kernel_rfl) ?_
      refine RegI.op (by kernel_rfl) (OpE.lit 26 5 [.int .u8 t35] 1 h41 (by kernel_rfl) (by kernel_rfl) ?_)
      intro w43 b44 h45 hb46
      refine RegI.op (by kernel_rfl) (OpE.storeBox 1 29 b6 0 (.agg #[.bool t33, .int .i64 t34]) [.bool t33, .int .i64 t34] h45 (by kernel_rfl) (by kernel_rfl) rfl (by kernel_rfl) (by kernel_rfl) (by kernel_rfl) ?_)
      intro w47 h48 hk49
      refine RegI.pure 1 [4, 5] [(4, .pointer (some ⟨b6, 0, none⟩)), (5, .slice (some ⟨b44, 0, none⟩) ([t35].length) 1)] (by kernel_rfl) ?_
      refine RegI.done (by kernel_rfl) ?_
      refine RunsI.retW [.cell 4 29, .tmp 5] [.agg #[.bool t33, .int .i64 t34], .slice (some ⟨b44, 0, none⟩) ([t35].length) 1] (.tuple #[.agg #[.bool t33, .int .i64 t34], .slice (some ⟨b44, 0, none⟩) ([t35].length) 1]) (by kernel_rfl) (by kernel_rfl) (ResAt.box 1 29 b6 0 h48 (by kernel_rfl) (by kernel_rfl) rfl (by kernel_rfl) (ResAt.tmp (by kernel_rfl) (by kernel_rfl) rfl)) (by kernel_rfl) ?_
      have h52 := h48.boxOwn 3 rfl (Rp.int .u8) [t35] (cells_int _ _ _ _) (Nat.le_of_ble_eq_true (by kernel_rfl))
      obtain rfl := Option.some.inj h
      exact ⟨(some ⟨b44, 0, none⟩), 1, rfl, h52.pick [3] (by decide)⟩
end

/-! ### charabanc/latch.Play (function 11) -/
section
def latch_Play_11.post (M0 : Nat → Prop) (w0 : World) (r : Bool × Int × (List Int)) : Ending → World → Prop := fun e w => ∃ (A3 : Option Addr) (c3 : Nat), e = .returned (.tuple #[.agg #[.bool r.1, .int .i64 r.2.1], .slice A3 r.2.2.length c3]) ∧ Holds M0 w0 w [own (Rp.int .u8) 5 (.slice A3 r.2.2.length c3) r.2.2]
def latch_Play_11.l0 (K : Nat) (p0_0 : Bool) (p0_1 : Int) (p1 : List Int) : Nat → Bool → Int → (List Int) → Int → Option (Bool × Int × (List Int))
  | 0, _, _, _, _ => none
  | k + 1, t11, t12, t16, t17 => cond (decide (t17 < (p1.length : Int))) (cond (inR t17 p1.length) ((latch_Latch_act_18.f K t11 t12 (rdD p1 t17)).bind fun yt29 => cond (mayBe (t16.length + yt29.2.2.length) 1) (latch_Play_11.l0 K p0_0 p0_1 p1 k yt29.1 yt29.2.1 (t16 ++ yt29.2.2) (IntKind.wrap .i64 (t17 + 1))) none) none) (some (t11, t12, t16))
set_option maxRecDepth 100000 in
theorem latch_Play_11.l0_ok (K : Nat) (M0 : Nat → Prop) (w0 : World) (pA1 : Option Addr) (pc1 : Nat) (p0_0 : Bool) (p0_1 : Int) (p1 : List Int) (b10 : Nat) (b13 : Nat) (R : Ending → World → Prop) (x : Bool × Int × (List Int)) (hk0 : ∀ (t69 : Bool) (t70 : Int) (t73 : List Int) (A71 : Option Addr) (c72 : Nat) (w1 : World), x = (t69, t70, t73) → Holds M0 w0 w1 [box b10 29 [.bool t69, .int .i64 t70], box b13 29 [.bool false, .int .i64 0], own (Rp.int .u8) 5 (.slice A71 t73.length c72) t73] → RunsI F11 [.c 23] [(2, .pointer (some ⟨b10, 0, none⟩)), (4, .pointer (some ⟨b13, 0, none⟩)), (6, .slice A71 t73.length c72)] w1 R) :
    ∀ (k : Nat) (t11 : Bool) (t12 : Int) (t16 : List Int) (t17 : Int) (A14 : Option Addr) (c15 : Nat) (w : World), latch_Play_11.l0 K p0_0 p0_1 p1 k t11 t12 t16 t17 = some x → Holds M0 w0 w [box b10 29 [.bool t11, .int .i64 t12], box b13 29 [.bool false, .int .i64 0], own (Rp.int .u8) 5 (.slice A14 t16.length c15) t16, sl (Rp.int .i64) (.slice pA1 p1.length pc1) p1] → RunsI F11 [.c 9, .lp 9, .blk 0, .c 23] [(2, .pointer (some ⟨b10, 0, none⟩)), (4, .pointer (some ⟨b13, 0, none⟩)), (6, .slice A14 t16.length c15), (11, .slice pA1 p1.length pc1), (12, .int .i64 (p1.length : Int)), (13, .int .i64 t17)] w R := by
  intro k
  induction k with
  | zero => intro t11 t12 t16 t17 A14 c15 w h hH; exact absurd h (by simp [latch_Play_11.l0])
  | succ k ih =>
    intro t11 t12 t16 t17 A14 c15 w h hH
    rw [latch_Play_11.l0.eq_2] at h
    refine RunsI.go 1 [.c 10, .c 11, .lp 9, .blk 0, .c 23] (by kernel_rfl) ?_
    refine RunsI.region (by kernel_rfl) ?_
    refine RegI.pure 1 [2, 4, 6, 11, 12, 13, 14] [(2, .pointer (some ⟨b10, 0, none⟩)), (4, .pointer (some ⟨b13, 0, none⟩)), (6, .slice A14 t16.length c15), (11, .slice pA1 p1.length pc1), (12, .int .i64 (p1.length : Int)), (13, .int .i64 t17), (14, .bool (decide (t17 < (p1.length : Int))))] (by kernel_rfl) ?_
    refine RegI.done (by kernel_rfl) ?_
    refine RunsI.go 1 [.c 12, .c 15, .lp 9, .blk 0, .c 23] (by kernel_rfl) ?_
    rcases of_cond h with ⟨hc18, h⟩ | ⟨hc18, h⟩
    · skip
      refine RunsI.fix 14 true hc18 (by kernel_rfl) (by kernel_rfl) ?_
      refine RunsI.cond true 13 (by kernel_rfl) ?_
      refine RunsI.go 1 [.c 15, .lp 9, .blk 0, .c 23] (by kernel_rfl) ?_
      refine RunsI.go 3 [.c 18, .c 19, .blk 1, .c 22, .lp 9, .blk 0, .c 23] (by kernel_rfl) ?_
      refine RunsI.region (by kernel_rfl) ?_
      obtain ⟨hc19, h⟩ := of_cond0 h
      refine RegI.op (by kernel_rfl) (OpE.idxSl 15 3 30 t17 hH (by kernel_rfl) rfl (by kernel_rfl) (by kernel_rfl) hc19 ?_)
      intro b20 o21 cs22 hk23 h24
      obtain rfl := hk23
      refine RegI.op (by kernel_rfl) (OpE.loadCel 16 4 3 b20 o21 0 (.int .i64 (rdD p1 t17)) h24 (by kernel_rfl) (by kernel_rfl) rfl (by kernel_rfl) ?_)
      refine RegI.pure 1 [2, 4, 6, 8, 11, 12, 13] [(2, .pointer (some ⟨b10, 0, none⟩)), (4, .pointer (some ⟨b13, 0, none⟩)), (6, .slice A14 t16.length c15), (8, .int .i64 (rdD p1 t17)), (11, .slice pA1 p1.length pc1), (12, .int .i64 (p1.length : Int)), (13, .int .i64 t17)] (by kernel_rfl) ?_
      refine RegI.done (by kernel_rfl) ?_
      refine RunsI.go 1 [.c 20, .c 21, .blk 1, .c 22, .lp 9, .blk 0, .c 23] (by kernel_rfl) ?_
      refine RunsI.region (by kernel_rfl) ?_
      refine RegI.op (by kernel_rfl) (OpE.loadBox 18 0 29 b10 0 (.agg #[.bool t11, .int .i64 t12]) h24 (by kernel_rfl) (by kernel_rfl) rfl (by kernel_rfl) ?_)
      refine RegI.pure 1 [2, 4, 6, 11, 12, 13, 18, 19] [(2, .pointer (some ⟨b10, 0, none⟩)), (4, .pointer (some ⟨b13, 0, none⟩)), (6, .slice A14 t16.length c15), (11, .slice pA1 p1.length pc1), (12, .int .i64 (p1.length : Int)), (13, .int .i64 t17), (18, .agg #[.bool t11, .int .i64 t12]), (19, .int .i64 (rdD p1 t17))] (by kernel_rfl) ?_
      obtain ⟨⟨t29, t30, t31⟩, hg28, h⟩ := of_bind h
      dsimp only at h
      refine RegI.op (by kernel_rfl) (OpE.call 20 (by kernel_rfl) 18 #[.agg #[.bool t11, .int .i64 t12], .int .i64 (rdD p1 t17)] (by kernel_rfl) ((latch_Latch_act_18_ok K _ w  t11 t12 (rdD p1 t17) h24.old' hg28).mono ?_))
      rintro _ w25 ⟨A32, c33, rfl, hr35⟩
      refine ⟨_, rfl, ?_⟩
      have hb26 := hr35.below
      have h27 := h24.join hr35
      refine RegI.pure 3 [2, 4, 6, 11, 12, 13, 21, 22] [(2, .pointer (some ⟨b10, 0, none⟩)), (4, .pointer (some ⟨b13, 0, none⟩)), (6, .slice A14 t16.length c15), (11, .slice pA1 p1.length pc1), (12, .int .i64 (p1.length : Int)), (13, .int .i64 t17), (21, .agg #[.bool t29, .int .i64 t30]), (22, .slice A32 t31.length c33)] (by kernel_rfl) ?_
      refine RegI.op (by kernel_rfl) (OpE.box 9 29 [.bool false, .int .i64 0] h27 (by kernel_rfl) (by kernel_rfl) ?_)
      intro w36 b37 h38 hb39
      refine RegI.op (by kernel_rfl) (OpE.storeBox 6 29 b37 0 (.agg #[.bool t29, .int .i64 t30]) [.bool t29, .int .i64 t30] h38 (by kernel_rfl) (by kernel_rfl) rfl (by kernel_rfl) (by kernel_rfl) (by kernel_rfl) ?_)
      intro w40 h41 hk42
      refine RegI.pure 1 [2, 4, 6, 9, 10, 11, 12, 13] [(2, .pointer (some ⟨b10, 0, none⟩)), (4, .pointer (some ⟨b13, 0, none⟩)), (6, .slice A14 t16.length c15), (9, .pointer (some ⟨b37, 0, none⟩)), (10, .slice A32 t31.length c33), (11, .slice pA1 p1.length pc1), (12, .int .i64 (p1.length : Int)), (13, .int .i64 t17)] (by kernel_rfl) ?_
      refine RegI.done (by kernel_rfl) ?_
      refine RunsI.any 6 (by kernel_rfl) (by kernel_rfl) (by kernel_rfl) (Kp (mines (pick [box b10 29 [.bool t11, .int .i64 t12], box b13 29 [.bool false, .int .i64 0], own (Rp.int .u8) 5 (.slice A14 t16.length c15) t16, sl (Rp.int .i64) (.slice pA1 p1.length pc1) p1, cel b20 o21 [.int .i64 (rdD p1 t17)], own (Rp.int .u8) 5 (.slice A32 t31.length c33) t31, box b37 29 [.bool t29, .int .i64 t30]] [0, 2])) (World.drew w40)) ?_
      have h44 := h41.drew
      generalize World.drew w40 = w43 at h44 ⊢
      have hS45 := Kp.refl (mines (pick [box b10 29 [.bool t11, .int .i64 t12], box b13 29 [.bool false, .int .i64 0], own (Rp.int .u8) 5 (.slice A14 t16.length c15) t16, sl (Rp.int .i64) (.slice pA1 p1.length pc1) p1, cel b20 o21 [.int .i64 (rdD p1 t17)], own (Rp.int .u8) 5 (.slice A32 t31.length c33) t31, box b37 29 [.bool t29, .int .i64 t30]] [0, 2])) w43
      refine AnyE.loadBox 0 23 6 29 b37 0 (.agg #[.bool t29, .int .i64 t30]) [0, 2] h44 rfl (by kernel_rfl) hS45 rfl rfl (by kernel_rfl) (by kernel_rfl) ?_
      refine AnyE.pure 1 24 (.slice A14 t16.length c15) (by kernel_rfl) hS45 (fun _ => by kernel_rfl) ?_
      refine AnyE.pure 2 25 (.slice A32 t31.length c33) (by kernel_rfl) hS45 (fun _ => by kernel_rfl) ?_
      refine AnyE.one 3 (by kernel_rfl) (fun w47 hu48 => ?_)
      have h49 := h44.call hu48
      have hS50 := hS45.up hu48
      refine OpE.enter 26 (by kernel_rfl) F19 19 rfl [.slice A14 t16.length c15, .slice A32 t31.length c33] (by kernel_rfl) (by kernel_rfl) ?_
      refine RunsI.go 1 [.c 1, .c 2] (by kernel_rfl) ?_
      refine RunsI.region (by kernel_rfl) ?_
      refine RegI.pure 1 [0, 1] [(0, .slice A14 t16.length c15), (1, .slice A32 t31.length c33)] (by kernel_rfl) ?_
      refine RegI.done (by kernel_rfl) ?_
      refine RunsI.go 1 [.c 3, .c 4] (by kernel_rfl) ?_
      refine RunsI.region (by kernel_rfl) ?_
      refine RegI.pure 2 [5, 6] [(5, .slice A14 t16.length c15), (6, .slice A32 t31.length c33)] (by kernel_rfl) ?_
      obtain ⟨hc51, h⟩ := of_cond0 h
      refine RegI.op (by kernel_rfl) (OpE.appendRow 7 2 31 5 1 (ys := t31) h49 (by kernel_rfl) (by kernel_rfl) (by kernel_rfl) rfl (h49.rdOwn 5 rfl) hc51 ?_)
      intro w52 A53 c54 h55 hk56
      have hS57 := hS50.trans hk56 (Kp.turned h44 [0, 2] rfl 2 rfl rfl)
      refine RegI.pure 1 [4] [(4, .slice A53 ((t16 ++ t31).length) c54)] (by kernel_rfl) ?_
      refine RegI.done (by kernel_rfl) ?_
      refine RunsI.ret (.slice A53 ((t16 ++ t31).length) c54) (by kernel_rfl) (by kernel_rfl) ?_
      refine cont_mk ?_
      refine ⟨hS57, ?_⟩
      refine AnyE.one 4 (by kernel_rfl) (fun w58 hu59 => ?_)
      have h60 := h55.call hu59
      have hS61 := hS57.up hu59
      refine OpE.storeBox 0 29 b10 0 (.agg #[.bool t29, .int .i64 t30]) [.bool t29, .int .i64 t30] h60 (by kernel_rfl) (by kernel_rfl) rfl (by kernel_rfl) (by kernel_rfl) (by kernel_rfl) ?_
      intro w62 h63 hk64
      have hS65 := hS61.trans hk64 (Kp.turned h44 [0, 2] rfl 0 rfl rfl)
      refine ⟨hS65, ?_⟩
      refine AnyE.pure 5 6 (.slice A53 ((t16 ++ t31).length) c54) (by kernel_rfl) hS65 (fun _ => by kernel_rfl) ?_
      refine AnyE.done (by kernel_rfl) (fun w66 hu67 => ?_)
      have h68 := h63.call hu67
      refine RunsI.only [2, 4, 6, 11, 12, 13] [(2, .pointer (some ⟨b10, 0, none⟩)), (4, .pointer (some ⟨b13, 0, none⟩)), (6, .slice A53 ((t16 ++ t31).length) c54), (11, .slice pA1 p1.length pc1), (12, .int .i64 (p1.length : Int)), (13, .int .i64 t17)] (by kernel_rfl) (by kernel_rfl) ?_
      refine RunsI.go 1 [.c 22, .lp 9, .blk 0, .c 23] (by kernel_rfl) ?_
      refine RunsI.region (by kernel_rfl) ?_
      refine RegI.pure 2 [2, 4, 6, 11, 12, 13] [(2, .pointer (some ⟨b10, 0, none⟩)), (4, .pointer (some ⟨b13, 0, none⟩)), (6, .slice A53 ((t16 ++ t31).length) c54), (11, .slice pA1 p1.length pc1), (12, .int .i64 (p1.length : Int)), (13, .int .i64 (IntKind.wrap .i64 (t17 + 1)))] (by kernel_rfl) ?_
      refine RegI.done (by kernel_rfl) ?_
      refine RunsI.go 1 [.c 9, .lp 9, .blk 0, .c 23] (by kernel_rfl) ?_
      refine RunsI.only [2, 4, 6, 11, 12, 13] [(2, .pointer (some ⟨b10, 0, none⟩)), (4, .pointer (some ⟨b13, 0, none⟩)), (6, .slice A53 ((t16 ++ t31).length) c54), (11, .slice pA1 p1.length pc1), (12, .int .i64 (p1.length : Int)), (13, .int .i64 (IntKind.wrap .i64 (t17 + 1)))] (by kernel_rfl) (by kernel_rfl) ?_
      exact ih t29 t30 (t16 ++ t31) (IntKind.wrap .i64 (t17 + 1)) A53 c54 w66 h (h68.pick [0, 1, 2, 3] (by decide))
    · skip
      refine RunsI.fix 14 false hc18 (by kernel_rfl) (by kernel_rfl) ?_
      refine RunsI.cond false 14 (by kernel_rfl) ?_
      refine RunsI.go 1 [.c 23] (by kernel_rfl) ?_
      refine RunsI.only [2, 4, 6] [(2, .pointer (some ⟨b10, 0, none⟩)), (4, .pointer (some ⟨b13, 0, none⟩)), (6, .slice A14 t16.length c15)] (by kernel_rfl) (by kernel_rfl) ?_
      exact hk0 t11 t12 t16 A14 c15 w (Option.some.inj h).symm (hH.pick [0, 1, 2] (by decide))
def latch_Play_11.f (K : Nat) (p0_0 : Bool) (p0_1 : Int) (p1 : List Int) : Option (Bool × Int × (List Int)) := (latch_Play_11.l0 K p0_0 p0_1 p1 K p0_0 p0_1 ([] : List Int) 0).bind (fun yx74 => some (yx74.1, yx74.2.1, yx74.2.2))
set_option maxRecDepth 100000 in
theorem latch_Play_11_ok (K : Nat) (M0 : Nat → Prop) (w0 : World) (pA1 : Option Addr) (pc1 : Nat) (p0_0 : Bool) (p0_1 : Int) (p1 : List Int) (ho : ∀ b, M0 b → b < w0.heap.size) (hs1 : Sl (Rp.int .i64) w0 M0 (.slice pA1 p1.length pc1) p1) {r : Bool × Int × (List Int)} (h : latch_Play_11.f K p0_0 p0_1 p1 = some r) :
    Calls Tryd.prog 11 #[.agg #[.bool p0_0, .int .i64 p0_1], .slice pA1 p1.length pc1] w0 (latch_Play_11.post M0 w0 r) := by
  unfold latch_Play_11.f at h
  have h0 : Holds M0 w0 w0 [] := Holds.start ho
  have h01 := h0.addSl (Rp.int .i64) (.slice pA1 p1.length pc1) p1 (hs1.mono (fun _ _ hm => hm.elim id (fun hm => absurd hm (by simp [mines, sl]))))
  have h0 : Holds M0 w0 w0 [sl (Rp.int .i64) (.slice pA1 p1.length pc1) p1] := h01
  refine calls_of F11 rfl [.agg #[.bool p0_0, .int .i64 p0_1], .slice pA1 p1.length pc1] (by kernel_rfl) ?_
  refine RunsI.go 1 [.c 1, .c 2] (by kernel_rfl) ?_
  refine RunsI.region (by kernel_rfl) ?_
  refine RegI.op (by kernel_rfl) (OpE.box 2 29 [.bool p0_0, .int .i64 p0_1] h0 (by kernel_rfl) (by kernel_rfl) ?_)
  intro w1 b2 h3 hb4
  refine RegI.op (by kernel_rfl) (OpE.box 4 29 [.bool false, .int .i64 0] h3 (by kernel_rfl) (by kernel_rfl) ?_)
  intro w5 b6 h7 hb8
  refine RegI.pure 1 [1, 2, 4] [(1, .slice pA1 p1.length pc1), (2, .pointer (some ⟨b2, 0, none⟩)), (4, .pointer (some ⟨b6, 0, none⟩))] (by kernel_rfl) ?_
  refine RegI.done (by kernel_rfl) ?_
  refine RunsI.go 1 [.c 3, .c 4] (by kernel_rfl) ?_
  refine RunsI.region (by kernel_rfl) ?_
  refine RegI.pure 1 [1, 2, 4, 6] [(1, .slice pA1 p1.length pc1), (2, .pointer (some ⟨b2, 0, none⟩)), (4, .pointer (some ⟨b6, 0, none⟩)), (6, .slice none 0 0)] (by kernel_rfl) ?_
  refine RegI.done (by kernel_rfl) ?_
  refine RunsI.go 2 [.c 6, .c 7, .c 23] (by kernel_rfl) ?_
  refine RunsI.region (by kernel_rfl) ?_
  refine RegI.pure 3 [2, 4, 6, 11, 12, 13] [(2, .pointer (some ⟨b2, 0, none⟩)), (4, .pointer (some ⟨b6, 0, none⟩)), (6, .slice none 0 0), (11, .slice pA1 p1.length pc1), (12, .int .i64 (p1.length : Int)), (13, .int .i64 0)] (by kernel_rfl) ?_
  refine RegI.done (by kernel_rfl) ?_
  refine RunsI.go 2 [.c 9, .lp 9, .blk 0, .c 23] (by kernel_rfl) ?_
  obtain ⟨x74, hx75, h⟩ := of_bind h
  have h9 := h7.addOwnNil (Rp.int .u8) 5
  refine RunsI.only [2, 4, 6, 11, 12, 13] [(2, .pointer (some ⟨b2, 0, none⟩)), (4, .pointer (some ⟨b6, 0, none⟩)), (6, .slice none (([] : List Int).length) 0), (11, .slice pA1 p1.length pc1), (12, .int .i64 (p1.length : Int)), (13, .int .i64 0)] (by kernel_rfl) (by kernel_rfl) ?_
  refine latch_Play_11.l0_ok K M0 w0 pA1 pc1 p0_0 p0_1 p1 b2 b6 _ x74 ?_ K p0_0 p0_1 ([] : List Int) 0 none 0 w5 hx75 (h9.pick [1, 2, 3, 0] (by decide))
  · intro t76 t77 t80 A78 c79 w82 hq86 h81
    (try rw [hq86] at h)
    dsimp only at h
    refine RunsI.go 1 [.c 24, .c 25] (by kernel_rfl) ?_
    refine RunsI.region (by kernel_rfl) ?_
    refine RegI.op (by kernel_rfl) (OpE.loadBox 28 0 29 b2 0 (.agg #[.bool t76, .int .i64 t77]) h81 (by kernel_rfl) (by kernel_rfl) rfl (by kernel_rfl) ?_)
    refine RegI.pure 1 [4, 28, 29] [(4, .pointer (some ⟨b6, 0, none⟩)), (28, .agg #[.bool t76, .int .i64 t77]), (29, .slice A78 t80.length c79)] (by kernel_rfl) ?_
    refine RegI.op (by kernel_rfl) (OpE.storeBox 1 29 b6 0 (.agg #[.bool t76, .int .i64 t77]) [.bool t76, .int .i64 t77] h81 (by kernel_rfl) (by kernel_rfl) rfl (by kernel_rfl) (by kernel_rfl) (by kernel_rfl) ?_)
    intro w83 h84 hk85
    refine RegI.pure 1 [4, 5] [(4, .pointer (some ⟨b6, 0, none⟩)), (5, .slice A78 t80.length c79)] (by kernel_rfl) ?_
    refine RegI.done (by kernel_rfl) ?_
    refine RunsI.retW [.cell 4 29, .tmp 5] [.agg #[.bool t76, .int .i64 t77], .slice A78 t80.length c79] (.tuple #[.agg #[.bool t76, .int .i64 t77], .slice A78 t80.length c79]) (by kernel_rfl) (by kernel_rfl) (ResAt.box 1 29 b6 0 h84 (by kernel_rfl) (by kernel_rfl) rfl (by kernel_rfl) (ResAt.tmp (by kernel_rfl) (by kernel_rfl) rfl)) (by kernel_rfl) ?_
    obtain rfl := Option.some.inj h
    exact ⟨A78, c79, rfl, h84.pick [2] (by decide)⟩
end

/-! ### charabanc/charabanclaw20.awake (function 6) -/
section
def charabanclaw20_awake_6.post (M0 : Nat → Prop) (w0 : World) (r : Bool) : Ending → World → Prop := fun e w => e = .returned (.bool r) ∧ Below w0.heap.size w0 w
def charabanclaw20_awake_6.f (K : Nat) : Option Bool := (latch_Device_7.f K 9).bind fun yt5 => (latch_Port_9.f K 3 1).bind fun yt11 => (latch_Play_11.f K false 0 [1, 2, 0, 2]).bind fun yt23 => (latch_Read_14.f K false 0 1).bind fun yt41 => cond (yt5.1 == 3) (cond (yt5.2 == 1) (cond (yt11.1 == 9) (cond yt11.2 (cond ((yt23.2.2.length : Int) == 3) (cond (inR 0 yt23.2.2.length) (cond ((rdD yt23.2.2 0) == 0) (cond (inR 1 yt23.2.2.length) (cond ((rdD yt23.2.2 1) == 255) (cond (inR 2 yt23.2.2.length) (cond ((rdD yt23.2.2 2) == 0) (cond ((yt23.1 == true) && ((yt23.2.1 == 2) && true)) (cond yt41.1 (cond (yt41.2.2 == 0) ((latch_Write_16.f K yt41.1 yt41.2.1 2).bind fun yt75 => some ((yt75.1 == false) && ((yt75.2 == 0) && true))) (some false)) (some false)) (some false)) (some false)) none) (some false)) none) (some false)) none) (some false)) (some false)) (some false)) (some false)) (some false)
set_option maxRecDepth 100000 in
theorem charabanclaw20_awake_6_ok (K : Nat) (M0 : Nat → Prop) (w0 : World) (ho : ∀ b, M0 b → b < w0.heap.size) (hG0 : (cel 0 0 (tab_0.flatMap en_0)).ok w0 M0) {r : Bool} (h : charabanclaw20_awake_6.f K = some r) :
    Calls Tryd.prog 6 #[] w0 (charabanclaw20_awake_6.post M0 w0 r) := by
  unfold charabanclaw20_awake_6.f at h
  have h0 : Holds M0 w0 w0 [] := Holds.start ho
  have h0g0 := h0.add (cel 0 0 (tab_0.flatMap en_0)) rfl ⟨hG0.1, fun hm => hG0.2.1 (hm.elim id (fun hm => absurd hm (by simp [mines, sl, cel]))), hG0.2.2⟩
  have h0 : Holds M0 w0 w0 [cel 0 0 (tab_0.flatMap en_0)] := h0g0
  refine calls_of F6 rfl [] (by kernel_rfl) ?_
  refine RunsI.go 1 [.c 1, .c 2] (by kernel_rfl) ?_
  refine RunsI.region (by kernel_rfl) ?_
  refine RegI.pure 1 [] [] (by kernel_rfl) ?_
  refine RegI.done (by kernel_rfl) ?_
  refine RunsI.go 1 [.c 3, .c 4] (by kernel_rfl) ?_
  refine RunsI.region (by kernel_rfl) ?_
  obtain ⟨⟨t5, t6⟩, hg4, h⟩ := of_bind h
  dsimp only at h
  refine RegI.op (by kernel_rfl) (OpE.call 10 (by kernel_rfl) 7 #[.int .u8 9] (by kernel_rfl) ((latch_Device_7_ok K _ w0  9 h0.old' (h0.get 0 rfl) hg4).mono ?_))
  rintro _ w1 ⟨rfl, hb2⟩
  refine ⟨_, rfl, ?_⟩
  have h3 := h0.call hb2
  refine RegI.pure 5 [1, 2] [(1, .int .i64 t5), (2, .int .i64 t6)] (by kernel_rfl) ?_
  refine RegI.done (by kernel_rfl) ?_
  refine RunsI.go 1 [.c 5, .c 6] (by kernel_rfl) ?_
  refine RunsI.region (by kernel_rfl) ?_
  obtain ⟨⟨t11, t12⟩, hg10, h⟩ := of_bind h
  dsimp only at h
  refine RegI.op (by kernel_rfl) (OpE.call 14 (by kernel_rfl) 9 #[.int .i64 3, .int .i64 1] (by kernel_rfl) ((latch_Port_9_ok K _ w1  3 1 h3.old' (h3.get 0 rfl) hg10).mono ?_))
  rintro _ w7 ⟨rfl, hb8⟩
  refine ⟨_, rfl, ?_⟩
  have h9 := h3.call hb8
  refine RegI.pure 5 [1, 2, 3, 4] [(1, .int .i64 t5), (2, .int .i64 t6), (3, .int .u8 t11), (4, .bool t12)] (by kernel_rfl) ?_
  refine RegI.done (by kernel_rfl) ?_
  refine RunsI.go 1 [.c 7, .c 8] (by kernel_rfl) ?_
  refine RunsI.region (by kernel_rfl) ?_
  refine RegI.pure 1 [1, 2, 3, 4, 18] [(1, .int .i64 t5), (2, .int .i64 t6), (3, .int .u8 t11), (4, .bool t12), (18, .agg #[.bool false, .int .i64 0])] (by kernel_rfl) ?_
  refine RegI.op (by kernel_rfl) (OpE.lit 19 3 [.int .i64 1, .int .i64 2, .int .i64 0, .int .i64 2] 4 h9 (by kernel_rfl) (by kernel_rfl) ?_)
  intro w13 b14 h15 hb16
  obtain ⟨⟨t23, t24, t25⟩, hg22, h⟩ := of_bind h
  dsimp only at h
  have h17 := h15.boxOwn 1 rfl (Rp.int .i64) [1, 2, 0, 2] (cells_int _ _ _ _) (Nat.le_of_ble_eq_true (by kernel_rfl))
  have h18 := h17.release 1 rfl
  refine RegI.op (by kernel_rfl) (OpE.call 20 (by kernel_rfl) 11 #[.agg #[.bool false, .int .i64 0], .slice (some ⟨b14, 0, none⟩) ([1, 2, 0, 2].length) 4] (by kernel_rfl) ((latch_Play_11_ok K _ w13  (some ⟨b14, 0, none⟩) 4 false 0 [1, 2, 0, 2] h18.old' (h18.get 1 rfl) hg22).mono ?_))
  rintro _ w19 ⟨A26, c27, rfl, hr29⟩
  refine ⟨_, rfl, ?_⟩
  have hb20 := hr29.below
  have h21 := h18.join hr29
  refine RegI.pure 3 [1, 2, 3, 4, 21, 22] [(1, .int .i64 t5), (2, .int .i64 t6), (3, .int .u8 t11), (4, .bool t12), (21, .agg #[.bool t23, .int .i64 t24]), (22, .slice A26 t25.length c27)] (by kernel_rfl) ?_
  refine RegI.op (by kernel_rfl) (OpE.box 5 29 [.bool false, .int .i64 0] h21 (by kernel_rfl) (by kernel_rfl) ?_)
  intro w30 b31 h32 hb33
  refine RegI.op (by kernel_rfl) (OpE.storeBox 3 29 b31 0 (.agg #[.bool t23, .int .i64 t24]) [.bool t23, .int .i64 t24] h32 (by kernel_rfl) (by kernel_rfl) rfl (by kernel_rfl) (by kernel_rfl) (by kernel_rfl) ?_)
  intro w34 h35 hk36
  refine RegI.pure 1 [1, 2, 3, 4, 5, 6] [(1, .int .i64 t5), (2, .int .i64 t6), (3, .int .u8 t11), (4, .bool t12), (5, .pointer (some ⟨b31, 0, none⟩)), (6, .slice A26 t25.length c27)] (by kernel_rfl) ?_
  refine RegI.done (by kernel_rfl) ?_
  refine RunsI.go 1 [.c 9, .c 10] (by kernel_rfl) ?_
  refine RunsI.region (by kernel_rfl) ?_
  refine RegI.pure 1 [1, 2, 3, 4, 5, 6, 24] [(1, .int .i64 t5), (2, .int .i64 t6), (3, .int .u8 t11), (4, .bool t12), (5, .pointer (some ⟨b31, 0, none⟩)), (6, .slice A26 t25.length c27), (24, .agg #[.bool false, .int .i64 0])] (by kernel_rfl) ?_
  obtain ⟨⟨t41, t42, t43⟩, hg40, h⟩ := of_bind h
  dsimp only at h
  refine RegI.op (by kernel_rfl) (OpE.call 25 (by kernel_rfl) 14 #[.agg #[.bool false, .int .i64 0], .int .i64 1] (by kernel_rfl) ((latch_Read_14_ok K _ w34  false 0 1 h35.old' hg40).mono ?_))
  rintro _ w37 ⟨rfl, hb38⟩
  refine ⟨_, rfl, ?_⟩
  have h39 := h35.call hb38
  refine RegI.pure 3 [1, 2, 3, 4, 5, 6, 26, 27] [(1, .int .i64 t5), (2, .int .i64 t6), (3, .int .u8 t11), (4, .bool t12), (5, .pointer (some ⟨b31, 0, none⟩)), (6, .slice A26 t25.length c27), (26, .agg #[.bool t41, .int .i64 t42]), (27, .int .u8 t43)] (by kernel_rfl) ?_
  refine RegI.op (by kernel_rfl) (OpE.box 7 29 [.bool false, .int .i64 0] h39 (by kernel_rfl) (by kernel_rfl) ?_)
  intro w44 b45 h46 hb47
  refine RegI.op (by kernel_rfl) (OpE.storeBox 4 29 b45 0 (.agg #[.bool t41, .int .i64 t42]) [.bool t41, .int .i64 t42] h46 (by kernel_rfl) (by kernel_rfl) rfl (by kernel_rfl) (by kernel_rfl) (by kernel_rfl) ?_)
  intro w48 h49 hk50
  refine RegI.pure 1 [1, 2, 3, 4, 5, 6, 7, 8] [(1, .int .i64 t5), (2, .int .i64 t6), (3, .int .u8 t11), (4, .bool t12), (5, .pointer (some ⟨b31, 0, none⟩)), (6, .slice A26 t25.length c27), (7, .pointer (some ⟨b45, 0, none⟩)), (8, .int .u8 t43)] (by kernel_rfl) ?_
  refine RegI.done (by kernel_rfl) ?_
  refine RunsI.go 1 [.c 11, .c 12] (by kernel_rfl) ?_
  refine RunsI.region (by kernel_rfl) ?_
  refine RegI.pure 3 [2, 3, 4, 5, 6, 7, 8, 30] [(2, .int .i64 t6), (3, .int .u8 t11), (4, .bool t12), (5, .pointer (some ⟨b31, 0, none⟩)), (6, .slice A26 t25.length c27), (7, .pointer (some ⟨b45, 0, none⟩)), (8, .int .u8 t43), (30, .bool (t5 == 3))] (by kernel_rfl) ?_
  rcases of_cond h with ⟨hc51, h⟩ | ⟨hc51, h⟩
  · skip
    refine RegI.fix 30 true hc51 (by kernel_rfl) (by kernel_rfl) ?_
    refine RegI.pure 4 [3, 4, 5, 6, 7, 8, 34] [(3, .int .u8 t11), (4, .bool t12), (5, .pointer (some ⟨b31, 0, none⟩)), (6, .slice A26 t25.length c27), (7, .pointer (some ⟨b45, 0, none⟩)), (8, .int .u8 t43), (34, .bool (t6 == 1))] (by kernel_rfl) ?_
    rcases of_cond h with ⟨hc52, h⟩ | ⟨hc52, h⟩
    · skip
      refine RegI.fix 34 true hc52 (by kernel_rfl) (by kernel_rfl) ?_
      refine RegI.pure 4 [4, 5, 6, 7, 8, 38] [(4, .bool t12), (5, .pointer (some ⟨b31, 0, none⟩)), (6, .slice A26 t25.length c27), (7, .pointer (some ⟨b45, 0, none⟩)), (8, .int .u8 t43), (38, .bool (t11 == 9))] (by kernel_rfl) ?_
      rcases of_cond h with ⟨hc53, h⟩ | ⟨hc53, h⟩
      · skip
        refine RegI.fix 38 true hc53 (by kernel_rfl) (by kernel_rfl) ?_
        refine RegI.pure 3 [5, 6, 7, 8, 41] [(5, .pointer (some ⟨b31, 0, none⟩)), (6, .slice A26 t25.length c27), (7, .pointer (some ⟨b45, 0, none⟩)), (8, .int .u8 t43), (41, .bool t12)] (by kernel_rfl) ?_
        rcases of_cond h with ⟨hc54, h⟩ | ⟨hc54, h⟩
        · skip
          refine RegI.fix 41 true hc54 (by kernel_rfl) (by kernel_rfl) ?_
          refine RegI.pure 5 [5, 6, 7, 8, 46] [(5, .pointer (some ⟨b31, 0, none⟩)), (6, .slice A26 t25.length c27), (7, .pointer (some ⟨b45, 0, none⟩)), (8, .int .u8 t43), (46, .bool ((t25.length : Int) == 3))] (by kernel_rfl) ?_
          rcases of_cond h with ⟨hc55, h⟩ | ⟨hc55, h⟩
          · skip
            refine RegI.fix 46 true hc55 (by kernel_rfl) (by kernel_rfl) ?_
            refine RegI.pure 1 [5, 6, 7, 8, 46, 47] [(5, .pointer (some ⟨b31, 0, none⟩)), (6, .slice A26 t25.length c27), (7, .pointer (some ⟨b45, 0, none⟩)), (8, .int .u8 t43), (46, .bool true), (47, .slice A26 t25.length c27)] (by kernel_rfl) ?_
            obtain ⟨hc56, h⟩ := of_cond0 h
            refine RegI.op (by kernel_rfl) (OpE.idxOwnA 48 2 31 5 0 h49 (by kernel_rfl) rfl (by kernel_rfl) (by kernel_rfl) hc56 ?_)
            refine RegI.op (by kernel_rfl) (OpE.loadOwnA 49 2 5 5 0 0 (o := (Int.toNat 0) * 1 + 0) h49 (by kernel_rfl) rfl (by kernel_rfl) (by kernel_rfl) hc56 (fun cs57 hk58 => ?_))
            obtain rfl := hk58
            refine ⟨.int .u8 (rdD t25 0), by kernel_rfl, ?_⟩
            refine RegI.pure 3 [5, 6, 7, 8, 52] [(5, .pointer (some ⟨b31, 0, none⟩)), (6, .slice A26 t25.length c27), (7, .pointer (some ⟨b45, 0, none⟩)), (8, .int .u8 t43), (52, .bool ((rdD t25 0) == 0))] (by kernel_rfl) ?_
            rcases of_cond h with ⟨hc59, h⟩ | ⟨hc59, h⟩
            · skip
              refine RegI.fix 52 true hc59 (by kernel_rfl) (by kernel_rfl) ?_
              refine RegI.pure 1 [5, 6, 7, 8, 52, 53] [(5, .pointer (some ⟨b31, 0, none⟩)), (6, .slice A26 t25.length c27), (7, .pointer (some ⟨b45, 0, none⟩)), (8, .int .u8 t43), (52, .bool true), (53, .slice A26 t25.length c27)] (by kernel_rfl) ?_
              obtain ⟨hc60, h⟩ := of_cond0 h
              refine RegI.op (by kernel_rfl) (OpE.idxOwnA 54 2 31 5 1 h49 (by kernel_rfl) rfl (by kernel_rfl) (by kernel_rfl) hc60 ?_)
              refine RegI.op (by kernel_rfl) (OpE.loadOwnA 55 2 5 5 1 0 (o := (Int.toNat 1) * 1 + 0) h49 (by kernel_rfl) rfl (by kernel_rfl) (by kernel_rfl) hc60 (fun cs61 hk62 => ?_))
              obtain rfl := hk62
              refine ⟨.int .u8 (rdD t25 1), by kernel_rfl, ?_⟩
              refine RegI.pure 3 [5, 6, 7, 8, 58] [(5, .pointer (some ⟨b31, 0, none⟩)), (6, .slice A26 t25.length c27), (7, .pointer (some ⟨b45, 0, none⟩)), (8, .int .u8 t43), (58, .bool ((rdD t25 1) == 255))] (by kernel_rfl) ?_
              rcases of_cond h with ⟨hc63, h⟩ | ⟨hc63, h⟩
              · skip
                refine RegI.fix 58 true hc63 (by kernel_rfl) (by kernel_rfl) ?_
                refine RegI.pure 1 [5, 7, 8, 58, 59] [(5, .pointer (some ⟨b31, 0, none⟩)), (7, .pointer (some ⟨b45, 0, none⟩)), (8, .int .u8 t43), (58, .bool true), (59, .slice A26 t25.length c27)] (by kernel_rfl) ?_
                obtain ⟨hc64, h⟩ := of_cond0 h
                refine RegI.op (by kernel_rfl) (OpE.idxOwnA 60 2 31 5 2 h49 (by kernel_rfl) rfl (by kernel_rfl) (by kernel_rfl) hc64 ?_)
                refine RegI.op (by kernel_rfl) (OpE.loadOwnA 61 2 5 5 2 0 (o := (Int.toNat 2) * 1 + 0) h49 (by kernel_rfl) rfl (by kernel_rfl) (by kernel_rfl) hc64 (fun cs65 hk66 => ?_))
                obtain rfl := hk66
                refine ⟨.int .u8 (rdD t25 2), by kernel_rfl, ?_⟩
                refine RegI.pure 3 [5, 7, 8, 64] [(5, .pointer (some ⟨b31, 0, none⟩)), (7, .pointer (some ⟨b45, 0, none⟩)), (8, .int .u8 t43), (64, .bool ((rdD t25 2) == 0))] (by kernel_rfl) ?_
                rcases of_cond h with ⟨hc67, h⟩ | ⟨hc67, h⟩
                · skip
                  refine RegI.fix 64 true hc67 (by kernel_rfl) (by kernel_rfl) ?_
                  refine RegI.op (by kernel_rfl) (OpE.loadBox 65 3 29 b31 0 (.agg #[.bool t23, .int .i64 t24]) h49 (by kernel_rfl) (by kernel_rfl) rfl (by kernel_rfl) ?_)
                  refine RegI.pure 1 [7, 8, 64, 65, 66] [(7, .pointer (some ⟨b45, 0, none⟩)), (8, .int .u8 t43), (64, .bool true), (65, .agg #[.bool t23, .int .i64 t24]), (66, .agg #[.bool true, .int .i64 2])] (by kernel_rfl) ?_
                  refine RegI.op (by kernel_rfl) (OpE.run 67 (by kernel_rfl) (run_eqS (neg := false) (t := 29) (x := .agg #[.bool t23, .int .i64 t24]) (y := .agg #[.bool true, .int .i64 2]) (b := ((t23 == true) && ((t24 == 2) && true))) (by kernel_rfl) (by kernel_rfl) (by kernel_rfl) (by kernel_rfl)) ?_)
                  refine RegI.pure 2 [7, 8, 69] [(7, .pointer (some ⟨b45, 0, none⟩)), (8, .int .u8 t43), (69, .bool ((t23 == true) && ((t24 == 2) && true)))] (by kernel_rfl) ?_
                  rcases of_cond h with ⟨hc68, h⟩ | ⟨hc68, h⟩
                  · skip
                    refine RegI.fix 69 true hc68 (by kernel_rfl) (by kernel_rfl) ?_
                    refine RegI.pure 1 [7, 8, 69, 70] [(7, .pointer (some ⟨b45, 0, none⟩)), (8, .int .u8 t43), (69, .bool true), (70, .pointer (some ⟨b45, 0, none⟩))] (by kernel_rfl) ?_
                    refine RegI.op (by kernel_rfl) (OpE.loadBox 71 4 4 b45 0 (.bool t41) h49 (by kernel_rfl) (by kernel_rfl) rfl (by kernel_rfl) ?_)
                    refine RegI.pure 2 [7, 8, 73] [(7, .pointer (some ⟨b45, 0, none⟩)), (8, .int .u8 t43), (73, .bool t41)] (by kernel_rfl) ?_
                    rcases of_cond h with ⟨hc69, h⟩ | ⟨hc69, h⟩
                    · skip
                      refine RegI.fix 73 true hc69 (by kernel_rfl) (by kernel_rfl) ?_
                      refine RegI.pure 4 [7, 77] [(7, .pointer (some ⟨b45, 0, none⟩)), (77, .bool (t43 == 0))] (by kernel_rfl) ?_
                      rcases of_cond h with ⟨hc70, h⟩ | ⟨hc70, h⟩
                      · skip
                        refine RegI.fix 77 true hc70 (by kernel_rfl) (by kernel_rfl) ?_
                        refine RegI.op (by kernel_rfl) (OpE.loadBox 78 4 29 b45 0 (.agg #[.bool t41, .int .i64 t42]) h49 (by kernel_rfl) (by kernel_rfl) rfl (by kernel_rfl) ?_)
                        obtain ⟨⟨t75, t76⟩, hg74, h⟩ := of_bind h
                        dsimp only at h
                        refine RegI.op (by kernel_rfl) (OpE.call 79 (by kernel_rfl) 16 #[.agg #[.bool t41, .int .i64 t42], .int .u8 2] (by kernel_rfl) ((latch_Write_16_ok K _ w48  t41 t42 2 h49.old' hg74).mono ?_))
                        rintro _ w71 ⟨rfl, hb72⟩
                        refine ⟨_, rfl, ?_⟩
                        have h73 := h49.call hb72
                        refine RegI.pure 1 [77, 79, 80] [(77, .bool true), (79, .agg #[.bool t75, .int .i64 t76]), (80, .agg #[.bool false, .int .i64 0])] (by kernel_rfl) ?_
                        refine RegI.op (by kernel_rfl) (OpE.run 81 (by kernel_rfl) (run_eqS (neg := false) (t := 29) (x := .agg #[.bool t75, .int .i64 t76]) (y := .agg #[.bool false, .int .i64 0]) (b := ((t75 == false) && ((t76 == 0) && true))) (by kernel_rfl) (by kernel_rfl) (by kernel_rfl) (by kernel_rfl)) ?_)
                        refine RegI.pure 2 [0] [(0, .bool ((t75 == false) && ((t76 == 0) && true)))] (by kernel_rfl) ?_
                        refine RegI.done (by kernel_rfl) ?_
                        refine RunsI.ret (.bool ((t75 == false) && ((t76 == 0) && true))) (by kernel_rfl) (by kernel_rfl) ?_
                        obtain rfl := Option.some.inj h
                        exact ⟨rfl, h73.below⟩
                      · skip
                        refine RegI.fix 77 false hc70 (by kernel_rfl) (by kernel_rfl) ?_
                        refine RegI.pure 6 [0] [(0, .bool false)] (by kernel_rfl) ?_
                        refine RegI.done (by kernel_rfl) ?_
                        refine RunsI.ret (.bool false) (by kernel_rfl) (by kernel_rfl) ?_
                        obtain rfl := Option.some.inj h
                        exact ⟨rfl, h49.below⟩
                    · skip
                      refine RegI.fix 73 false hc69 (by kernel_rfl) (by kernel_rfl) ?_
                      refine RegI.pure 10 [0] [(0, .bool false)] (by kernel_rfl) ?_
                      refine RegI.done (by kernel_rfl) ?_
                      refine RunsI.ret (.bool false) (by kernel_rfl) (by kernel_rfl) ?_
                      obtain rfl := Option.some.inj h
                      exact ⟨rfl, h49.below⟩
                  · skip
                    refine RegI.fix 69 false hc68 (by kernel_rfl) (by kernel_rfl) ?_
                    refine RegI.pure 14 [0] [(0, .bool false)] (by kernel_rfl) ?_
                    refine RegI.done (by kernel_rfl) ?_
                    refine RunsI.ret (.bool false) (by kernel_rfl) (by kernel_rfl) ?_
                    obtain rfl := Option.some.inj h
                    exact ⟨rfl, h49.below⟩
                · skip
                  refine RegI.fix 64 false hc67 (by kernel_rfl) (by kernel_rfl) ?_
                  refine RegI.pure 19 [0] [(0, .bool false)] (by kernel_rfl) ?_
                  refine RegI.done (by kernel_rfl) ?_
                  refine RunsI.ret (.bool false) (by kernel_rfl) (by kernel_rfl) ?_
                  obtain rfl := Option.some.inj h
                  exact ⟨rfl, h49.below⟩
              · skip
                refine RegI.fix 58 false hc63 (by kernel_rfl) (by kernel_rfl) ?_
                refine RegI.pure 25 [0] [(0, .bool false)] (by kernel_rfl) ?_
                refine RegI.done (by kernel_rfl) ?_
                refine RunsI.ret (.bool false) (by kernel_rfl) (by kernel_rfl) ?_
                obtain rfl := Option.some.inj h
                exact ⟨rfl, h49.below⟩
            · skip
              refine RegI.fix 52 false hc59 (by kernel_rfl) (by kernel_rfl) ?_
              refine RegI.pure 31 [0] [(0, .bool false)] (by kernel_rfl) ?_
              refine RegI.done (by kernel_rfl) ?_
              refine RunsI.ret (.bool false) (by kernel_rfl) (by kernel_rfl) ?_
              obtain rfl := Option.some.inj h
              exact ⟨rfl, h49.below⟩
          · skip
            refine RegI.fix 46 false hc55 (by kernel_rfl) (by kernel_rfl) ?_
            refine RegI.pure 37 [0] [(0, .bool false)] (by kernel_rfl) ?_
            refine RegI.done (by kernel_rfl) ?_
            refine RunsI.ret (.bool false) (by kernel_rfl) (by kernel_rfl) ?_
            obtain rfl := Option.some.inj h
            exact ⟨rfl, h49.below⟩
        · skip
          refine RegI.fix 41 false hc54 (by kernel_rfl) (by kernel_rfl) ?_
          refine RegI.pure 42 [0] [(0, .bool false)] (by kernel_rfl) ?_
          refine RegI.done (by kernel_rfl) ?_
          refine RunsI.ret (.bool false) (by kernel_rfl) (by kernel_rfl) ?_
          obtain rfl := Option.some.inj h
          exact ⟨rfl, h49.below⟩
      · skip
        refine RegI.fix 38 false hc53 (by kernel_rfl) (by kernel_rfl) ?_
        refine RegI.pure 45 [0] [(0, .bool false)] (by kernel_rfl) ?_
        refine RegI.done (by kernel_rfl) ?_
        refine RunsI.ret (.bool false) (by kernel_rfl) (by kernel_rfl) ?_
        obtain rfl := Option.some.inj h
        exact ⟨rfl, h49.below⟩
    · skip
      refine RegI.fix 34 false hc52 (by kernel_rfl) (by kernel_rfl) ?_
      refine RegI.pure 49 [0] [(0, .bool false)] (by kernel_rfl) ?_
      refine RegI.done (by kernel_rfl) ?_
      refine RunsI.ret (.bool false) (by kernel_rfl) (by kernel_rfl) ?_
      obtain rfl := Option.some.inj h
      exact ⟨rfl, h49.below⟩
  · skip
    refine RegI.fix 30 false hc51 (by kernel_rfl) (by kernel_rfl) ?_
    refine RegI.pure 53 [0] [(0, .bool false)] (by kernel_rfl) ?_
    refine RegI.done (by kernel_rfl) ?_
    refine RunsI.ret (.bool false) (by kernel_rfl) (by kernel_rfl) ?_
    obtain rfl := Option.some.inj h
    exact ⟨rfl, h49.below⟩
end

/-! ### charabanc/charabancref20.Device (function 8) -/
section
def charabancref20_Device_8.post (M0 : Nat → Prop) (w0 : World) (r : Int × Int) : Ending → World → Prop := fun e w => e = .returned (.tuple #[.int .i64 r.1, .int .i64 r.2]) ∧ Below w0.heap.size w0 w
def charabancref20_Device_8.f (K : Nat) (p0 : Int) : Option (Int × Int) := cond (decide ((IntKind.wrap .i64 p0) < 12)) (some ((IntKind.wrap .i64 (1 + (IntKind.wrap .i64 (Int.tdiv (IntKind.wrap .i64 p0) 4)))), (Int.tmod (IntKind.wrap .i64 p0) 4))) (cond ((IntKind.wrap .i64 p0) == 12) (some (4, 0)) (cond ((IntKind.wrap .i64 p0) == 14) (some (5, 0)) (cond ((IntKind.wrap .i64 p0) == 15) (some (6, 0)) (some (0, 0)))))
set_option maxRecDepth 100000 in
theorem charabancref20_Device_8_ok (K : Nat) (M0 : Nat → Prop) (w0 : World) (p0 : Int) (ho : ∀ b, M0 b → b < w0.heap.size) {r : Int × Int} (h : charabancref20_Device_8.f K p0 = some r) :
    Calls Tryd.prog 8 #[.int .u8 p0] w0 (charabancref20_Device_8.post M0 w0 r) := by
  unfold charabancref20_Device_8.f at h
  have h0 : Holds M0 w0 w0 [] := Holds.start ho
  have h0 : Holds M0 w0 w0 [] := h0
  refine calls_of F8 rfl [.int .u8 p0] (by kernel_rfl) ?_
  refine RunsI.go 1 [.c 1, .c 2] (by kernel_rfl) ?_
  refine RunsI.region (by kernel_rfl) ?_
  refine RegI.pure 2 [0] [(0, .int .u8 p0)] (by kernel_rfl) ?_
  refine RegI.done (by kernel_rfl) ?_
  refine RunsI.go 1 [.c 3, .c 4] (by kernel_rfl) ?_
  refine RunsI.region (by kernel_rfl) ?_
  refine RegI.pure 3 [4] [(4, .int .i64 (IntKind.wrap .i64 p0))] (by kernel_rfl) ?_
  refine RegI.done (by kernel_rfl) ?_
  refine RunsI.go 3 [.c 7, .c 8, .blk 0, .c 31] (by kernel_rfl) ?_
  refine RunsI.region (by kernel_rfl) ?_
  refine RegI.pure 3 [4, 7] [(4, .int .i64 (IntKind.wrap .i64 p0)), (7, .bool (decide ((IntKind.wrap .i64 p0) < 12)))] (by kernel_rfl) ?_
  refine RegI.done (by kernel_rfl) ?_
  rcases of_cond h with ⟨hc1, h⟩ | ⟨hc1, h⟩
  · skip
    refine RunsI.fix 7 true hc1 (by kernel_rfl) (by kernel_rfl) ?_
    refine RunsI.cond true 9 (by kernel_rfl) ?_
    refine RunsI.go 1 [.c 10, .c 11, .blk 0, .c 31] (by kernel_rfl) ?_
    refine RunsI.region (by kernel_rfl) ?_
    refine RegI.pure 7 [2, 3] [(2, .int .i64 (IntKind.wrap .i64 (1 + (IntKind.wrap .i64 (Int.tdiv (IntKind.wrap .i64 p0) 4))))), (3, .int .i64 (Int.tmod (IntKind.wrap .i64 p0) 4))] (by kernel_rfl) ?_
    refine RegI.done (by kernel_rfl) ?_
    refine RunsI.ret (.tuple #[.int .i64 (IntKind.wrap .i64 (1 + (IntKind.wrap .i64 (Int.tdiv (IntKind.wrap .i64 p0) 4)))), .int .i64 (Int.tmod (IntKind.wrap .i64 p0) 4)]) (by kernel_rfl) (by kernel_rfl) ?_
    obtain rfl := Option.some.inj h
    exact ⟨rfl, h0.below⟩
  · skip
    refine RunsI.fix 7 false hc1 (by kernel_rfl) (by kernel_rfl) ?_
    refine RunsI.cond false 12 (by kernel_rfl) ?_
    refine RunsI.go 1 [.c 13, .c 14, .blk 0, .c 31] (by kernel_rfl) ?_
    refine RunsI.region (by kernel_rfl) ?_
    refine RegI.pure 3 [4, 15] [(4, .int .i64 (IntKind.wrap .i64 p0)), (15, .bool ((IntKind.wrap .i64 p0) == 12))] (by kernel_rfl) ?_
    refine RegI.done (by kernel_rfl) ?_
    rcases of_cond h with ⟨hc2, h⟩ | ⟨hc2, h⟩
    · skip
      refine RunsI.fix 15 true hc2 (by kernel_rfl) (by kernel_rfl) ?_
      refine RunsI.cond true 15 (by kernel_rfl) ?_
      refine RunsI.go 1 [.c 16, .c 17, .blk 0, .c 31] (by kernel_rfl) ?_
      refine RunsI.region (by kernel_rfl) ?_
      refine RegI.pure 2 [2, 3] [(2, .int .i64 4), (3, .int .i64 0)] (by kernel_rfl) ?_
      refine RegI.done (by kernel_rfl) ?_
      refine RunsI.ret (.tuple #[.int .i64 4, .int .i64 0]) (by kernel_rfl) (by kernel_rfl) ?_
      obtain rfl := Option.some.inj h
      exact ⟨rfl, h0.below⟩
    · skip
      refine RunsI.fix 15 false hc2 (by kernel_rfl) (by kernel_rfl) ?_
      refine RunsI.cond false 18 (by kernel_rfl) ?_
      refine RunsI.go 1 [.c 19, .c 20, .blk 0, .c 31] (by kernel_rfl) ?_
      refine RunsI.region (by kernel_rfl) ?_
      refine RegI.pure 3 [4, 18] [(4, .int .i64 (IntKind.wrap .i64 p0)), (18, .bool ((IntKind.wrap .i64 p0) == 14))] (by kernel_rfl) ?_
      refine RegI.done (by kernel_rfl) ?_
      rcases of_cond h with ⟨hc3, h⟩ | ⟨hc3, h⟩
      · skip
        refine RunsI.fix 18 true hc3 (by kernel_rfl) (by kernel_rfl) ?_
        refine RunsI.cond true 21 (by kernel_rfl) ?_
        refine RunsI.go 1 [.c 22, .c 23, .blk 0, .c 31] (by kernel_rfl) ?_
        refine RunsI.region (by kernel_rfl) ?_
        refine RegI.pure 2 [2, 3] [(2, .int .i64 5), (3, .int .i64 0)] (by kernel_rfl) ?_
        refine RegI.done (by kernel_rfl) ?_
        refine RunsI.ret (.tuple #[.int .i64 5, .int .i64 0]) (by kernel_rfl) (by kernel_rfl) ?_
        obtain rfl := Option.some.inj h
        exact ⟨rfl, h0.below⟩
      · skip
        refine RunsI.fix 18 false hc3 (by kernel_rfl) (by kernel_rfl) ?_
        refine RunsI.cond false 24 (by kernel_rfl) ?_
        refine RunsI.go 1 [.c 25, .c 26, .blk 0, .c 31] (by kernel_rfl) ?_
        refine RunsI.region (by kernel_rfl) ?_
        refine RegI.pure 3 [21] [(21, .bool ((IntKind.wrap .i64 p0) == 15))] (by kernel_rfl) ?_
        refine RegI.done (by kernel_rfl) ?_
        rcases of_cond h with ⟨hc4, h⟩ | ⟨hc4, h⟩
        · skip
          refine RunsI.fix 21 true hc4 (by kernel_rfl) (by kernel_rfl) ?_
          refine RunsI.cond true 27 (by kernel_rfl) ?_
          refine RunsI.go 1 [.c 28, .c 29, .blk 0, .c 31] (by kernel_rfl) ?_
          refine RunsI.region (by kernel_rfl) ?_
          refine RegI.pure 2 [2, 3] [(2, .int .i64 6), (3, .int .i64 0)] (by kernel_rfl) ?_
          refine RegI.done (by kernel_rfl) ?_
          refine RunsI.ret (.tuple #[.int .i64 6, .int .i64 0]) (by kernel_rfl) (by kernel_rfl) ?_
          obtain rfl := Option.some.inj h
          exact ⟨rfl, h0.below⟩
        · skip
          refine RunsI.fix 21 false hc4 (by kernel_rfl) (by kernel_rfl) ?_
          refine RunsI.cond false 30 (by kernel_rfl) ?_
          refine RunsI.go 1 [.blk 0, .c 31] (by kernel_rfl) ?_
          refine RunsI.go 2 [.c 32, .c 33] (by kernel_rfl) ?_
          refine RunsI.region (by kernel_rfl) ?_
          refine RegI.pure 2 [2, 3] [(2, .int .i64 0), (3, .int .i64 0)] (by kernel_rfl) ?_
          refine RegI.done (by kernel_rfl) ?_
          refine RunsI.ret (.tuple #[.int .i64 0, .int .i64 0]) (by kernel_rfl) (by kernel_rfl) ?_
          obtain rfl := Option.some.inj h
          exact ⟨rfl, h0.below⟩
end

/-! ### charabanc/charabancref20.Port (function 10) -/
section
def charabancref20_Port_10.post (M0 : Nat → Prop) (w0 : World) (r : Int × Bool) : Ending → World → Prop := fun e w => e = .returned (.tuple #[.int .u8 r.1, .bool r.2]) ∧ Below w0.heap.size w0 w
def charabancref20_Port_10.l0 (K : Nat) (p0 : Int) (p1 : Int) : Nat → Int → Option (Lp Int Unit)
  | 0, _ => none
  | k + 1, t1 => cond (decide (t1 < 256)) ((charabancref20_Device_8.f K (IntKind.wrap .u8 t1)).bind fun yt7 => Let (fun (t11 : Bool) => cond t11 (some (Lp.ret (IntKind.wrap .u8 t1))) (charabancref20_Port_10.l0 K p0 p1 k (IntKind.wrap .i64 (t1 + 1)))) (fun j14 => cond (yt7.1 == p0) (cond (yt7.2 == p1) (j14 (yt7.1 != 0)) (j14 false)) (j14 false))) (some (Lp.go ()))
set_option maxRecDepth 100000 in
theorem charabancref20_Port_10.l0_ok (K : Nat) (M0 : Nat → Prop) (w0 : World) (p0 : Int) (p1 : Int) (R : Ending → World → Prop) (x : Lp Int Unit) (hk0 : ∀ (w1 : World), x = Lp.go () → Holds M0 w0 w1 [] → RunsI F10 [.c 25] [] w1 R) (hk1 : ∀ (t18 : Int) (w1 : World), x = Lp.ret t18 → Holds M0 w0 w1 [] → R (.returned (.tuple #[.int .u8 t18, .bool true])) w1) :
    ∀ (k : Nat) (t1 : Int) (w : World), charabancref20_Port_10.l0 K p0 p1 k t1 = some x → Holds M0 w0 w [] → RunsI F10 [.c 7, .lp 7, .blk 0, .c 25] [(0, .int .i64 p0), (1, .int .i64 p1), (6, .int .i64 t1)] w R := by
  intro k
  induction k with
  | zero => intro t1 w h hH; exact absurd h (by simp [charabancref20_Port_10.l0])
  | succ k ih =>
    intro t1 w h hH
    rw [charabancref20_Port_10.l0.eq_2] at h
    refine RunsI.go 1 [.c 8, .c 13, .lp 7, .blk 0, .c 25] (by kernel_rfl) ?_
    refine RunsI.go 1 [.c 9, .c 10, .c 13, .lp 7, .blk 0, .c 25] (by kernel_rfl) ?_
    refine RunsI.region (by kernel_rfl) ?_
    refine RegI.pure 2 [0, 1, 6, 10] [(0, .int .i64 p0), (1, .int .i64 p1), (6, .int .i64 t1), (10, .bool (decide (t1 < 256)))] (by kernel_rfl) ?_
    refine RegI.done (by kernel_rfl) ?_
    rcases of_cond h with ⟨hc2, h⟩ | ⟨hc2, h⟩
    · skip
      refine RunsI.fix 10 true hc2 (by kernel_rfl) (by kernel_rfl) ?_
      refine RunsI.cond true 11 (by kernel_rfl) ?_
      refine RunsI.go 1 [.c 13, .lp 7, .blk 0, .c 25] (by kernel_rfl) ?_
      refine RunsI.go 3 [.c 16, .c 17, .blk 1, .c 24, .lp 7, .blk 0, .c 25] (by kernel_rfl) ?_
      refine RunsI.region (by kernel_rfl) ?_
      refine RegI.pure 2 [0, 1, 6, 15] [(0, .int .i64 p0), (1, .int .i64 p1), (6, .int .i64 t1), (15, .int .u8 (IntKind.wrap .u8 t1))] (by kernel_rfl) ?_
      obtain ⟨⟨t7, t8⟩, hg6, h⟩ := of_bind h
      dsimp only at h
      refine RegI.op (by kernel_rfl) (OpE.call 16 (by kernel_rfl) 8 #[.int .u8 (IntKind.wrap .u8 t1)] (by kernel_rfl) ((charabancref20_Device_8_ok K _ w  (IntKind.wrap .u8 t1) hH.old' hg6).mono ?_))
      rintro _ w3 ⟨rfl, hb4⟩
      refine ⟨_, rfl, ?_⟩
      have h5 := hH.call hb4
      refine RegI.pure 5 [0, 1, 6, 7, 8] [(0, .int .i64 p0), (1, .int .i64 p1), (6, .int .i64 t1), (7, .int .i64 t7), (8, .int .i64 t8)] (by kernel_rfl) ?_
      refine RegI.done (by kernel_rfl) ?_
      refine RunsI.go 1 [.c 18, .c 19, .blk 1, .c 24, .lp 7, .blk 0, .c 25] (by kernel_rfl) ?_
      refine RunsI.region (by kernel_rfl) ?_
      refine RegI.pure 4 [0, 1, 6, 7, 8, 22] [(0, .int .i64 p0), (1, .int .i64 p1), (6, .int .i64 t1), (7, .int .i64 t7), (8, .int .i64 t8), (22, .bool (t7 == p0))] (by kernel_rfl) ?_
      obtain ⟨j14, hJ15, h⟩ := of_let h
      have hj16 : ∀ (t11 : Bool) (w13 : World), j14 t11 = some x → Holds M0 w0 w13 [] → RegI F10 18 [.c 19, .blk 1, .c 24, .lp 7, .blk 0, .c 25] 12 [(0, .int .i64 p0), (1, .int .i64 p1), (6, .int .i64 t1), (30, .bool t11)] w13 R := by
        intro t11 w13 h h12
        rw [hJ15] at h
        clear hJ15
        dsimp only at h
        refine RegI.done (by kernel_rfl) ?_
        rcases of_cond h with ⟨hc17, h⟩ | ⟨hc17, h⟩
        · skip
          refine RunsI.fix 30 true hc17 (by kernel_rfl) (by kernel_rfl) ?_
          refine RunsI.cond true 20 (by kernel_rfl) ?_
          refine RunsI.go 1 [.c 21, .c 22, .blk 1, .c 24, .lp 7, .blk 0, .c 25] (by kernel_rfl) ?_
          refine RunsI.region (by kernel_rfl) ?_
          refine RegI.pure 4 [4, 5] [(4, .int .u8 (IntKind.wrap .u8 t1)), (5, .bool true)] (by kernel_rfl) ?_
          refine RegI.done (by kernel_rfl) ?_
          refine RunsI.ret (.tuple #[.int .u8 (IntKind.wrap .u8 t1), .bool true]) (by kernel_rfl) (by kernel_rfl) ?_
          exact hk1 (IntKind.wrap .u8 t1) w13 (Option.some.inj h).symm (h12.pick [] (by decide))
        · skip
          refine RunsI.fix 30 false hc17 (by kernel_rfl) (by kernel_rfl) ?_
          refine RunsI.cond false 23 (by kernel_rfl) ?_
          refine RunsI.go 1 [.blk 1, .c 24, .lp 7, .blk 0, .c 25] (by kernel_rfl) ?_
          refine RunsI.go 1 [.c 24, .lp 7, .blk 0, .c 25] (by kernel_rfl) ?_
          refine RunsI.region (by kernel_rfl) ?_
          refine RegI.pure 3 [0, 1, 6] [(0, .int .i64 p0), (1, .int .i64 p1), (6, .int .i64 (IntKind.wrap .i64 (t1 + 1)))] (by kernel_rfl) ?_
          refine RegI.done (by kernel_rfl) ?_
          refine RunsI.go 1 [.c 7, .lp 7, .blk 0, .c 25] (by kernel_rfl) ?_
          refine RunsI.only [0, 1, 6] [(0, .int .i64 p0), (1, .int .i64 p1), (6, .int .i64 (IntKind.wrap .i64 (t1 + 1)))] (by kernel_rfl) (by kernel_rfl) ?_
          exact ih (IntKind.wrap .i64 (t1 + 1)) w13 h (h12.pick [] (by decide))
      clear hJ15
      rcases of_cond h with ⟨hc9, h⟩ | ⟨hc9, h⟩
      · skip
        refine RegI.fix 22 true hc9 (by kernel_rfl) (by kernel_rfl) ?_
        refine RegI.pure 5 [0, 1, 6, 7, 23, 24, 25, 27] [(0, .int .i64 p0), (1, .int .i64 p1), (6, .int .i64 t1), (7, .int .i64 t7), (23, .int .i64 t8), (24, .int .i64 p1), (25, .bool (t8 == p1)), (27, .bool (t8 == p1))] (by kernel_rfl) ?_
        rcases of_cond h with ⟨hc10, h⟩ | ⟨hc10, h⟩
        · skip
          refine RegI.fix 27 true hc10 (by kernel_rfl) (by kernel_rfl) ?_
          refine RegI.pure 3 [0, 1, 6, 23, 24, 25, 28, 29, 30] [(0, .int .i64 p0), (1, .int .i64 p1), (6, .int .i64 t1), (23, .int .i64 t8), (24, .int .i64 p1), (25, .bool (t8 == p1)), (28, .int .i64 t7), (29, .bool (t7 != 0)), (30, .bool (t7 != 0))] (by kernel_rfl) ?_
          refine RegI.only [0, 1, 6, 30] [(0, .int .i64 p0), (1, .int .i64 p1), (6, .int .i64 t1), (30, .bool (t7 != 0))] (by kernel_rfl) (by kernel_rfl) ?_
          exact hj16 (t7 != 0) w3 h (h5.pick [] (by decide))
        · skip
          refine RegI.fix 27 false hc10 (by kernel_rfl) (by kernel_rfl) ?_
          refine RegI.pure 3 [0, 1, 6, 23, 24, 25, 28, 29, 30] [(0, .int .i64 p0), (1, .int .i64 p1), (6, .int .i64 t1), (23, .int .i64 t8), (24, .int .i64 p1), (25, .bool (t8 == p1)), (28, undef), (29, undef), (30, .bool false)] (by kernel_rfl) ?_
          refine RegI.only [0, 1, 6, 30] [(0, .int .i64 p0), (1, .int .i64 p1), (6, .int .i64 t1), (30, .bool false)] (by kernel_rfl) (by kernel_rfl) ?_
          exact hj16 false w3 h (h5.pick [] (by decide))
      · skip
        refine RegI.fix 22 false hc9 (by kernel_rfl) (by kernel_rfl) ?_
        refine RegI.pure 8 [0, 1, 6, 23, 24, 25, 28, 29, 30] [(0, .int .i64 p0), (1, .int .i64 p1), (6, .int .i64 t1), (23, undef), (24, undef), (25, undef), (28, undef), (29, undef), (30, .bool false)] (by kernel_rfl) ?_
        refine RegI.only [0, 1, 6, 30] [(0, .int .i64 p0), (1, .int .i64 p1), (6, .int .i64 t1), (30, .bool false)] (by kernel_rfl) (by kernel_rfl) ?_
        exact hj16 false w3 h (h5.pick [] (by decide))
    · skip
      refine RunsI.fix 10 false hc2 (by kernel_rfl) (by kernel_rfl) ?_
      refine RunsI.cond false 12 (by kernel_rfl) ?_
      refine RunsI.go 1 [.c 25] (by kernel_rfl) ?_
      refine RunsI.only [] [] (by kernel_rfl) (by kernel_rfl) ?_
      exact hk0 w (Option.some.inj h).symm (hH.pick [] (by decide))
def charabancref20_Port_10.f (K : Nat) (p0 : Int) (p1 : Int) : Option (Int × Bool) := (charabancref20_Port_10.l0 K p0 p1 K 0).bind (fun x19 => Lp.elim x19 (fun t23 => some (t23, true)) (fun _ => some (0, false)))
set_option maxRecDepth 100000 in
theorem charabancref20_Port_10_ok (K : Nat) (M0 : Nat → Prop) (w0 : World) (p0 : Int) (p1 : Int) (ho : ∀ b, M0 b → b < w0.heap.size) {r : Int × Bool} (h : charabancref20_Port_10.f K p0 p1 = some r) :
    Calls Tryd.prog 10 #[.int .i64 p0, .int .i64 p1] w0 (charabancref20_Port_10.post M0 w0 r) := by
  unfold charabancref20_Port_10.f at h
  have h0 : Holds M0 w0 w0 [] := Holds.start ho
  have h0 : Holds M0 w0 w0 [] := h0
  refine calls_of F10 rfl [.int .i64 p0, .int .i64 p1] (by kernel_rfl) ?_
  refine RunsI.go 1 [.c 1, .c 2] (by kernel_rfl) ?_
  refine RunsI.region (by kernel_rfl) ?_
  refine RegI.pure 2 [0, 1] [(0, .int .i64 p0), (1, .int .i64 p1)] (by kernel_rfl) ?_
  refine RegI.done (by kernel_rfl) ?_
  refine RunsI.go 2 [.c 4, .c 5, .c 25] (by kernel_rfl) ?_
  refine RunsI.region (by kernel_rfl) ?_
  refine RegI.pure 1 [0, 1, 6] [(0, .int .i64 p0), (1, .int .i64 p1), (6, .int .i64 0)] (by kernel_rfl) ?_
  refine RegI.done (by kernel_rfl) ?_
  refine RunsI.go 2 [.c 7, .lp 7, .blk 0, .c 25] (by kernel_rfl) ?_
  obtain ⟨x19, hx20, h⟩ := of_bind h
  refine RunsI.only [0, 1, 6] [(0, .int .i64 p0), (1, .int .i64 p1), (6, .int .i64 0)] (by kernel_rfl) (by kernel_rfl) ?_
  refine charabancref20_Port_10.l0_ok K M0 w0 p0 p1 _ x19 ?_ ?_ K 0 w0 hx20 (h0.pick [] (by decide))
  · intro w22 hq26 h21
    (try rw [hq26] at h)
    dsimp only [Lp.elim] at h
    refine RunsI.go 1 [.c 26, .c 27] (by kernel_rfl) ?_
    refine RunsI.region (by kernel_rfl) ?_
    refine RegI.pure 2 [4, 5] [(4, .int .u8 0), (5, .bool false)] (by kernel_rfl) ?_
    refine RegI.done (by kernel_rfl) ?_
    refine RunsI.ret (.tuple #[.int .u8 0, .bool false]) (by kernel_rfl) (by kernel_rfl) ?_
    obtain rfl := Option.some.inj h
    exact ⟨rfl, h21.below⟩
  · intro t23 w25 hq27 h24
    (try rw [hq27] at h)
    dsimp only [Lp.elim] at h
    obtain rfl := Option.some.inj h
    exact ⟨rfl, h24.below⟩
end

/-! ### charabanc/charabancref20.Read (function 15) -/
section
def charabancref20_Read_15.post (M0 : Nat → Prop) (w0 : World) (r : Bool × Int × Int) : Ending → World → Prop := fun e w => e = .returned (.tuple #[.agg #[.bool r.1, .int .i64 r.2.1], .int .u8 r.2.2]) ∧ Below w0.heap.size w0 w
def charabancref20_Read_15.f (K : Nat) (p0_0 : Bool) (p0_1 : Int) (p1 : Int) : Option (Bool × Int × Int) := cond p0_0 (some (p0_0, p0_1, 255)) (some (true, p1, 0))
set_option maxRecDepth 100000 in
theorem charabancref20_Read_15_ok (K : Nat) (M0 : Nat → Prop) (w0 : World) (p0_0 : Bool) (p0_1 : Int) (p1 : Int) (ho : ∀ b, M0 b → b < w0.heap.size) {r : Bool × Int × Int} (h : charabancref20_Read_15.f K p0_0 p0_1 p1 = some r) :
    Calls Tryd.prog 15 #[.agg #[.bool p0_0, .int .i64 p0_1], .int .i64 p1] w0 (charabancref20_Read_15.post M0 w0 r) := by
  unfold charabancref20_Read_15.f at h
  have h0 : Holds M0 w0 w0 [] := Holds.start ho
  have h0 : Holds M0 w0 w0 [] := h0
  refine calls_of F15 rfl [.agg #[.bool p0_0, .int .i64 p0_1], .int .i64 p1] (by kernel_rfl) ?_
  refine RunsI.go 1 [.c 1, .c 2] (by kernel_rfl) ?_
  refine RunsI.region (by kernel_rfl) ?_
  refine RegI.op (by kernel_rfl) (OpE.box 2 34 [.bool p0_0, .int .i64 p0_1] h0 (by kernel_rfl) (by kernel_rfl) ?_)
  intro w1 b2 h3 hb4
  refine RegI.op (by kernel_rfl) (OpE.box 4 34 [.bool false, .int .i64 0] h3 (by kernel_rfl) (by kernel_rfl) ?_)
  intro w5 b6 h7 hb8
  refine RegI.pure 1 [1, 2, 4] [(1, .int .i64 p1), (2, .pointer (some ⟨b2, 0, none⟩)), (4, .pointer (some ⟨b6, 0, none⟩))] (by kernel_rfl) ?_
  refine RegI.done (by kernel_rfl) ?_
  refine RunsI.go 2 [.c 4, .c 5, .c 10] (by kernel_rfl) ?_
  refine RunsI.region (by kernel_rfl) ?_
  refine RegI.pure 1 [1, 2, 4, 6] [(1, .int .i64 p1), (2, .pointer (some ⟨b2, 0, none⟩)), (4, .pointer (some ⟨b6, 0, none⟩)), (6, .pointer (some ⟨b2, 0, none⟩))] (by kernel_rfl) ?_
  refine RegI.op (by kernel_rfl) (OpE.loadBox 7 0 4 b2 0 (.bool p0_0) h7 (by kernel_rfl) (by kernel_rfl) rfl (by kernel_rfl) ?_)
  refine RegI.done (by kernel_rfl) ?_
  rcases of_cond h with ⟨hc9, h⟩ | ⟨hc9, h⟩
  · skip
    refine RunsI.fix 7 true hc9 (by kernel_rfl) (by kernel_rfl) ?_
    refine RunsI.cond true 6 (by kernel_rfl) ?_
    refine RunsI.go 1 [.c 7, .c 8, .c 10] (by kernel_rfl) ?_
    refine RunsI.region (by kernel_rfl) ?_
    refine RegI.op (by kernel_rfl) (OpE.loadBox 8 0 34 b2 0 (.agg #[.bool p0_0, .int .i64 p0_1]) h7 (by kernel_rfl) (by kernel_rfl) rfl (by kernel_rfl) ?_)
    refine RegI.op (by kernel_rfl) (OpE.storeBox 1 34 b6 0 (.agg #[.bool p0_0, .int .i64 p0_1]) [.bool p0_0, .int .i64 p0_1] h7 (by kernel_rfl) (by kernel_rfl) rfl (by kernel_rfl) (by kernel_rfl) (by kernel_rfl) ?_)
    intro w10 h11 hk12
    refine RegI.pure 1 [4, 5] [(4, .pointer (some ⟨b6, 0, none⟩)), (5, .int .u8 255)] (by kernel_rfl) ?_
    refine RegI.done (by kernel_rfl) ?_
    refine RunsI.retW [.cell 4 34, .tmp 5] [.agg #[.bool p0_0, .int .i64 p0_1], .int .u8 255] (.tuple #[.agg #[.bool p0_0, .int .i64 p0_1], .int .u8 255]) (by kernel_rfl) (by kernel_rfl) (ResAt.box 1 34 b6 0 h11 (by kernel_rfl) (by kernel_rfl) rfl (by kernel_rfl) (ResAt.tmp (by kernel_rfl) (by kernel_rfl) rfl)) (by kernel_rfl) ?_
    obtain rfl := Option.some.inj h
    exact ⟨rfl, h11.below⟩
  · skip
    refine RunsI.fix 7 false hc9 (by kernel_rfl) (by kernel_rfl) ?_
    refine RunsI.cond false 9 (by kernel_rfl) ?_
    refine RunsI.go 1 [.c 10] (by kernel_rfl) ?_
    refine RunsI.go 1 [.c 11, .c 12] (by kernel_rfl) ?_
    refine RunsI.region (by kernel_rfl) ?_
    refine RegI.pure 2 [4, 10] [(4, .pointer (some ⟨b6, 0, none⟩)), (10, .agg #[.bool true, .int .i64 p1])] (by kernel_rfl) ?_
    refine RegI.op (by kernel_rfl) (OpE.storeBox 1 34 b6 0 (.agg #[.bool true, .int .i64 p1]) [.bool true, .int .i64 p1] h7 (by kernel_rfl) (by kernel_rfl) rfl (by kernel_rfl) (by kernel_rfl) (by kernel_rfl) ?_)
    intro w13 h14 hk15
    refine RegI.pure 1 [4, 5] [(4, .pointer (some ⟨b6, 0, none⟩)), (5, .int .u8 0)] (by kernel_rfl) ?_
    refine RegI.done (by kernel_rfl) ?_
    refine RunsI.retW [.cell 4 34, .tmp 5] [.agg #[.bool true, .int .i64 p1], .int .u8 0] (.tuple #[.agg #[.bool true, .int .i64 p1], .int .u8 0]) (by kernel_rfl) (by kernel_rfl) (ResAt.box 1 34 b6 0 h14 (by kernel_rfl) (by kernel_rfl) rfl (by kernel_rfl) (ResAt.tmp (by kernel_rfl) (by kernel_rfl) rfl)) (by kernel_rfl) ?_
    obtain rfl := Option.some.inj h
    exact ⟨rfl, h14.below⟩
end

/-! ### charabanc/charabancref20.Write (function 17) -/
section
def charabancref20_Write_17.post (M0 : Nat → Prop) (w0 : World) (r : Bool × Int) : Ending → World → Prop := fun e w => e = .returned (.agg #[.bool r.1, .int .i64 r.2]) ∧ Below w0.heap.size w0 w
def charabancref20_Write_17.f (K : Nat) (p0_0 : Bool) (p0_1 : Int) (p1 : Int) : Option (Bool × Int) := cond ((Int.tmod p1 2) == 0) (some (false, 0)) (some (p0_0, p0_1))
set_option maxRecDepth 100000 in
theorem charabancref20_Write_17_ok (K : Nat) (M0 : Nat → Prop) (w0 : World) (p0_0 : Bool) (p0_1 : Int) (p1 : Int) (ho : ∀ b, M0 b → b < w0.heap.size) {r : Bool × Int} (h : charabancref20_Write_17.f K p0_0 p0_1 p1 = some r) :
    Calls Tryd.prog 17 #[.agg #[.bool p0_0, .int .i64 p0_1], .int .u8 p1] w0 (charabancref20_Write_17.post M0 w0 r) := by
  unfold charabancref20_Write_17.f at h
  have h0 : Holds M0 w0 w0 [] := Holds.start ho
  have h0 : Holds M0 w0 w0 [] := h0
  refine calls_of F17 rfl [.agg #[.bool p0_0, .int .i64 p0_1], .int .u8 p1] (by kernel_rfl) ?_
  refine RunsI.go 1 [.c 1, .c 2] (by kernel_rfl) ?_
  refine RunsI.region (by kernel_rfl) ?_
  refine RegI.op (by kernel_rfl) (OpE.box 2 34 [.bool p0_0, .int .i64 p0_1] h0 (by kernel_rfl) (by kernel_rfl) ?_)
  intro w1 b2 h3 hb4
  refine RegI.op (by kernel_rfl) (OpE.box 4 34 [.bool false, .int .i64 0] h3 (by kernel_rfl) (by kernel_rfl) ?_)
  intro w5 b6 h7 hb8
  refine RegI.done (by kernel_rfl) ?_
  refine RunsI.go 2 [.c 4, .c 5, .c 10] (by kernel_rfl) ?_
  refine RunsI.region (by kernel_rfl) ?_
  refine RegI.pure 3 [2, 4, 7] [(2, .pointer (some ⟨b2, 0, none⟩)), (4, .pointer (some ⟨b6, 0, none⟩)), (7, .bool ((Int.tmod p1 2) == 0))] (by kernel_rfl) ?_
  refine RegI.done (by kernel_rfl) ?_
  rcases of_cond h with ⟨hc9, h⟩ | ⟨hc9, h⟩
  · skip
    refine RunsI.fix 7 true hc9 (by kernel_rfl) (by kernel_rfl) ?_
    refine RunsI.cond true 6 (by kernel_rfl) ?_
    refine RunsI.go 1 [.c 7, .c 8, .c 10] (by kernel_rfl) ?_
    refine RunsI.region (by kernel_rfl) ?_
    refine RegI.pure 1 [4, 8] [(4, .pointer (some ⟨b6, 0, none⟩)), (8, .agg #[.bool false, .int .i64 0])] (by kernel_rfl) ?_
    refine RegI.op (by kernel_rfl) (OpE.storeBox 1 34 b6 0 (.agg #[.bool false, .int .i64 0]) [.bool false, .int .i64 0] h7 (by kernel_rfl) (by kernel_rfl) rfl (by kernel_rfl) (by kernel_rfl) (by kernel_rfl) ?_)
    intro w10 h11 hk12
    refine RegI.done (by kernel_rfl) ?_
    refine RunsI.retW [.cell 4 34] [.agg #[.bool false, .int .i64 0]] (.agg #[.bool false, .int .i64 0]) (by kernel_rfl) (by kernel_rfl) (ResAt.box 1 34 b6 0 h11 (by kernel_rfl) (by kernel_rfl) rfl (by kernel_rfl) rfl) (by kernel_rfl) ?_
    obtain rfl := Option.some.inj h
    exact ⟨rfl, h11.below⟩
  · skip
    refine RunsI.fix 7 false hc9 (by kernel_rfl) (by kernel_rfl) ?_
    refine RunsI.cond false 9 (by kernel_rfl) ?_
    refine RunsI.go 1 [.c 10] (by kernel_rfl) ?_
    refine RunsI.go 1 [.c 11, .c 12] (by kernel_rfl) ?_
    refine RunsI.region (by kernel_rfl) ?_
    refine RegI.op (by kernel_rfl) (OpE.loadBox 9 0 34 b2 0 (.agg #[.bool p0_0, .int .i64 p0_1]) h7 (by kernel_rfl) (by kernel_rfl) rfl (by kernel_rfl) ?_)
    refine RegI.op (by kernel_rfl) (OpE.storeBox 1 34 b6 0 (.agg #[.bool p0_0, .int .i64 p0_1]) [.bool p0_0, .int .i64 p0_1] h7 (by kernel_rfl) (by kernel_rfl) rfl (by kernel_rfl) (by kernel_rfl) (by kernel_rfl) ?_)
    intro w13 h14 hk15
    refine RegI.done (by kernel_rfl) ?_
    refine RunsI.retW [.cell 4 34] [.agg #[.bool p0_0, .int .i64 p0_1]] (.agg #[.bool p0_0, .int .i64 p0_1]) (by kernel_rfl) (by kernel_rfl) (ResAt.box 1 34 b6 0 h14 (by kernel_rfl) (by kernel_rfl) rfl (by kernel_rfl) rfl) (by kernel_rfl) ?_
    obtain rfl := Option.some.inj h
    exact ⟨rfl, h14.below⟩
end

/-! ### charabanc/charabancref20.Play (function 12) -/
section
def charabancref20_Play_12.post (M0 : Nat → Prop) (w0 : World) (r : Bool × Int × (List Int)) : Ending → World → Prop := fun e w => ∃ (A3 : Option Addr) (c3 : Nat), e = .returned (.tuple #[.agg #[.bool r.1, .int .i64 r.2.1], .slice A3 r.2.2.length c3]) ∧ Holds M0 w0 w [own (Rp.int .u8) 5 (.slice A3 r.2.2.length c3) r.2.2]
def charabancref20_Play_12.l0 (K : Nat) (p0_0 : Bool) (p0_1 : Int) (p1 : List Int) : Nat → Bool → Int → (List Int) → Int → Option (Bool × Int × (List Int))
  | 0, _, _, _, _ => none
  | k + 1, t11, t12, t16, t17 => cond (decide (t17 < (p1.length : Int))) (cond (inR t17 p1.length) (Let (fun (yj60 : Bool × Int × (List Int)) => Let (fun (yj77 : Bool × Int) => cond (decide ((rdD p1 t17) < 0)) ((charabancref20_Write_17.f K yj77.1 yj77.2 1).bind fun yt85 => charabancref20_Play_12.l0 K p0_0 p0_1 p1 k yt85.1 yt85.2 yj60.2.2 (IntKind.wrap .i64 (t17 + 1))) (charabancref20_Play_12.l0 K p0_0 p0_1 p1 k yj77.1 yj77.2 yj60.2.2 (IntKind.wrap .i64 (t17 + 1)))) (fun j77 => cond ((rdD p1 t17) == 0) ((charabancref20_Write_17.f K yj60.1 yj60.2.1 0).bind fun yt68 => j77 (yt68.1, yt68.2)) (j77 (yj60.1, yj60.2.1)))) (fun j60 => cond (decide ((rdD p1 t17) > 0)) ((charabancref20_Read_15.f K t11 t12 (rdD p1 t17)).bind fun yt30 => cond (mayBe (t16.length + [yt30.2.2].length) 1) (j60 (yt30.1, yt30.2.1, (t16 ++ [yt30.2.2]))) none) (j60 (t11, t12, t16)))) none) (some (t11, t12, t16))
set_option maxRecDepth 100000 in
theorem charabancref20_Play_12.l0_ok (K : Nat) (M0 : Nat → Prop) (w0 : World) (pA1 : Option Addr) (pc1 : Nat) (p0_0 : Bool) (p0_1 : Int) (p1 : List Int) (b10 : Nat) (b13 : Nat) (R : Ending → World → Prop) (x : Bool × Int × (List Int)) (hk0 : ∀ (t90 : Bool) (t91 : Int) (t94 : List Int) (A92 : Option Addr) (c93 : Nat) (w1 : World), x = (t90, t91, t94) → Holds M0 w0 w1 [box b10 34 [.bool t90, .int .i64 t91], box b13 34 [.bool false, .int .i64 0], own (Rp.int .u8) 5 (.slice A92 t94.length c93) t94] → RunsI F12 [.c 41] [(2, .pointer (some ⟨b10, 0, none⟩)), (4, .pointer (some ⟨b13, 0, none⟩)), (6, .slice A92 t94.length c93)] w1 R) :
    ∀ (k : Nat) (t11 : Bool) (t12 : Int) (t16 : List Int) (t17 : Int) (A14 : Option Addr) (c15 : Nat) (w : World), charabancref20_Play_12.l0 K p0_0 p0_1 p1 k t11 t12 t16 t17 = some x → Holds M0 w0 w [sl (Rp.int .i64) (.slice pA1 p1.length pc1) p1, box b10 34 [.bool t11, .int .i64 t12], box b13 34 [.bool false, .int .i64 0], own (Rp.int .u8) 5 (.slice A14 t16.length c15) t16] → RunsI F12 [.c 9, .lp 9, .blk 0, .c 41] [(1, .slice pA1 p1.length pc1), (2, .pointer (some ⟨b10, 0, none⟩)), (4, .pointer (some ⟨b13, 0, none⟩)), (6, .slice A14 t16.length c15), (7, .int .i64 t17)] w R := by
  intro k
  induction k with
  | zero => intro t11 t12 t16 t17 A14 c15 w h hH; exact absurd h (by simp [charabancref20_Play_12.l0])
  | succ k ih =>
    intro t11 t12 t16 t17 A14 c15 w h hH
    rw [charabancref20_Play_12.l0.eq_2] at h
    refine RunsI.go 1 [.c 10, .c 15, .lp 9, .blk 0, .c 41] (by kernel_rfl) ?_
    refine RunsI.go 1 [.c 11, .c 12, .c 15, .lp 9, .blk 0, .c 41] (by kernel_rfl) ?_
    refine RunsI.region (by kernel_rfl) ?_
    refine RegI.pure 4 [1, 2, 4, 6, 7, 14] [(1, .slice pA1 p1.length pc1), (2, .pointer (some ⟨b10, 0, none⟩)), (4, .pointer (some ⟨b13, 0, none⟩)), (6, .slice A14 t16.length c15), (7, .int .i64 t17), (14, .bool (decide (t17 < (p1.length : Int))))] (by kernel_rfl) ?_
    refine RegI.done (by kernel_rfl) ?_
    rcases of_cond h with ⟨hc18, h⟩ | ⟨hc18, h⟩
    · skip
      refine RunsI.fix 14 true hc18 (by kernel_rfl) (by kernel_rfl) ?_
      refine RunsI.cond true 13 (by kernel_rfl) ?_
      refine RunsI.go 1 [.c 15, .lp 9, .blk 0, .c 41] (by kernel_rfl) ?_
      refine RunsI.go 3 [.c 18, .c 19, .blk 1, .c 40, .lp 9, .blk 0, .c 41] (by kernel_rfl) ?_
      refine RunsI.region (by kernel_rfl) ?_
      refine RegI.pure 2 [1, 2, 4, 6, 7, 17, 18] [(1, .slice pA1 p1.length pc1), (2, .pointer (some ⟨b10, 0, none⟩)), (4, .pointer (some ⟨b13, 0, none⟩)), (6, .slice A14 t16.length c15), (7, .int .i64 t17), (17, .slice pA1 p1.length pc1), (18, .int .i64 t17)] (by kernel_rfl) ?_
      obtain ⟨hc19, h⟩ := of_cond0 h
      refine RegI.op (by kernel_rfl) (OpE.idxSl 19 0 30 t17 hH (by kernel_rfl) rfl (by kernel_rfl) (by kernel_rfl) hc19 ?_)
      intro b20 o21 cs22 hk23 h24
      obtain rfl := hk23
      refine RegI.op (by kernel_rfl) (OpE.loadCel 20 4 3 b20 o21 0 (.int .i64 (rdD p1 t17)) h24 (by kernel_rfl) (by kernel_rfl) rfl (by kernel_rfl) ?_)
      refine RegI.pure 1 [1, 2, 4, 6, 7, 8] [(1, .slice pA1 p1.length pc1), (2, .pointer (some ⟨b10, 0, none⟩)), (4, .pointer (some ⟨b13, 0, none⟩)), (6, .slice A14 t16.length c15), (7, .int .i64 t17), (8, .int .i64 (rdD p1 t17))] (by kernel_rfl) ?_
      refine RegI.done (by kernel_rfl) ?_
      refine RunsI.go 2 [.c 21, .c 22, .c 29, .blk 1, .c 40, .lp 9, .blk 0, .c 41] (by kernel_rfl) ?_
      refine RunsI.region (by kernel_rfl) ?_
      refine RegI.pure 2 [1, 2, 4, 6, 7, 8, 22] [(1, .slice pA1 p1.length pc1), (2, .pointer (some ⟨b10, 0, none⟩)), (4, .pointer (some ⟨b13, 0, none⟩)), (6, .slice A14 t16.length c15), (7, .int .i64 t17), (8, .int .i64 (rdD p1 t17)), (22, .bool (decide ((rdD p1 t17) > 0)))] (by kernel_rfl) ?_
      refine RegI.done (by kernel_rfl) ?_
      obtain ⟨j60, hJ61, h⟩ := of_let h
      have hj62 : ∀ (t53 : Bool) (t54 : Int) (t57 : List Int) (A55 : Option Addr) (c56 : Nat) (w59 : World), j60 (t53, t54, t57) = some x → Holds M0 w0 w59 [sl (Rp.int .i64) (.slice pA1 p1.length pc1) p1, box b10 34 [.bool t53, .int .i64 t54], box b13 34 [.bool false, .int .i64 0], own (Rp.int .u8) 5 (.slice A55 t57.length c56) t57] → RunsI F12 [.c 29, .blk 1, .c 40, .lp 9, .blk 0, .c 41] [(1, .slice pA1 p1.length pc1), (2, .pointer (some ⟨b10, 0, none⟩)), (4, .pointer (some ⟨b13, 0, none⟩)), (6, .slice A55 t57.length c56), (7, .int .i64 t17), (8, .int .i64 (rdD p1 t17))] w59 R := by
        intro t53 t54 t57 A55 c56 w59 h h58
        rw [hJ61] at h
        clear hJ61
        dsimp only at h
        refine RunsI.go 2 [.c 31, .c 32, .c 35, .blk 1, .c 40, .lp 9, .blk 0, .c 41] (by kernel_rfl) ?_
        refine RunsI.region (by kernel_rfl) ?_
        refine RegI.pure 2 [1, 2, 4, 6, 7, 8, 35] [(1, .slice pA1 p1.length pc1), (2, .pointer (some ⟨b10, 0, none⟩)), (4, .pointer (some ⟨b13, 0, none⟩)), (6, .slice A55 t57.length c56), (7, .int .i64 t17), (8, .int .i64 (rdD p1 t17)), (35, .bool ((rdD p1 t17) == 0))] (by kernel_rfl) ?_
        refine RegI.done (by kernel_rfl) ?_
        obtain ⟨j77, hJ78, h⟩ := of_let h
        have hj79 : ∀ (t73 : Bool) (t74 : Int) (w76 : World), j77 (t73, t74) = some x → Holds M0 w0 w76 [sl (Rp.int .i64) (.slice pA1 p1.length pc1) p1, box b10 34 [.bool t73, .int .i64 t74], box b13 34 [.bool false, .int .i64 0], own (Rp.int .u8) 5 (.slice A55 t57.length c56) t57] → RunsI F12 [.c 35, .blk 1, .c 40, .lp 9, .blk 0, .c 41] [(1, .slice pA1 p1.length pc1), (2, .pointer (some ⟨b10, 0, none⟩)), (4, .pointer (some ⟨b13, 0, none⟩)), (6, .slice A55 t57.length c56), (7, .int .i64 t17), (8, .int .i64 (rdD p1 t17))] w76 R := by
          intro t73 t74 w76 h h75
          rw [hJ78] at h
          clear hJ78
          dsimp only at h
          refine RunsI.go 1 [.c 36, .c 37, .blk 1, .c 40, .lp 9, .blk 0, .c 41] (by kernel_rfl) ?_
          refine RunsI.region (by kernel_rfl) ?_
          refine RegI.pure 2 [1, 2, 4, 6, 7, 39] [(1, .slice pA1 p1.length pc1), (2, .pointer (some ⟨b10, 0, none⟩)), (4, .pointer (some ⟨b13, 0, none⟩)), (6, .slice A55 t57.length c56), (7, .int .i64 t17), (39, .bool (decide ((rdD p1 t17) < 0)))] (by kernel_rfl) ?_
          refine RegI.done (by kernel_rfl) ?_
          rcases of_cond h with ⟨hc80, h⟩ | ⟨hc80, h⟩
          · skip
            refine RunsI.fix 39 true hc80 (by kernel_rfl) (by kernel_rfl) ?_
            refine RunsI.cond true 38 (by kernel_rfl) ?_
            refine RunsI.region (by kernel_rfl) ?_
            refine RegI.op (by kernel_rfl) (OpE.loadBox 40 1 34 b10 0 (.agg #[.bool t73, .int .i64 t74]) h75 (by kernel_rfl) (by kernel_rfl) rfl (by kernel_rfl) ?_)
            obtain ⟨⟨t85, t86⟩, hg84, h⟩ := of_bind h
            dsimp only at h
            refine RegI.op (by kernel_rfl) (OpE.call 41 (by kernel_rfl) 17 #[.agg #[.bool t73, .int .i64 t74], .int .u8 1] (by kernel_rfl) ((charabancref20_Write_17_ok K _ w76  t73 t74 1 h75.old' hg84).mono ?_))
            rintro _ w81 ⟨rfl, hb82⟩
            refine ⟨_, rfl, ?_⟩
            have h83 := h75.call hb82
            refine RegI.op (by kernel_rfl) (OpE.storeBox 1 34 b10 0 (.agg #[.bool t85, .int .i64 t86]) [.bool t85, .int .i64 t86] h83 (by kernel_rfl) (by kernel_rfl) rfl (by kernel_rfl) (by kernel_rfl) (by kernel_rfl) ?_)
            intro w87 h88 hk89
            refine RegI.done (by kernel_rfl) ?_
            refine RunsI.go 1 [.c 40, .lp 9, .blk 0, .c 41] (by kernel_rfl) ?_
            refine RunsI.region (by kernel_rfl) ?_
            refine RegI.pure 3 [1, 2, 4, 6, 7] [(1, .slice pA1 p1.length pc1), (2, .pointer (some ⟨b10, 0, none⟩)), (4, .pointer (some ⟨b13, 0, none⟩)), (6, .slice A55 t57.length c56), (7, .int .i64 (IntKind.wrap .i64 (t17 + 1)))] (by kernel_rfl) ?_
            refine RegI.done (by kernel_rfl) ?_
            refine RunsI.go 1 [.c 9, .lp 9, .blk 0, .c 41] (by kernel_rfl) ?_
            refine RunsI.only [1, 2, 4, 6, 7] [(1, .slice pA1 p1.length pc1), (2, .pointer (some ⟨b10, 0, none⟩)), (4, .pointer (some ⟨b13, 0, none⟩)), (6, .slice A55 t57.length c56), (7, .int .i64 (IntKind.wrap .i64 (t17 + 1)))] (by kernel_rfl) (by kernel_rfl) ?_
            exact ih t85 t86 t57 (IntKind.wrap .i64 (t17 + 1)) A55 c56 w87 h (h88.pick [0, 1, 2, 3] (by decide))
          · skip
            refine RunsI.fix 39 false hc80 (by kernel_rfl) (by kernel_rfl) ?_
            refine RunsI.cond false 39 (by kernel_rfl) ?_
            refine RunsI.go 1 [.blk 1, .c 40, .lp 9, .blk 0, .c 41] (by kernel_rfl) ?_
            refine RunsI.go 1 [.c 40, .lp 9, .blk 0, .c 41] (by kernel_rfl) ?_
            refine RunsI.region (by kernel_rfl) ?_
            refine RegI.pure 3 [1, 2, 4, 6, 7] [(1, .slice pA1 p1.length pc1), (2, .pointer (some ⟨b10, 0, none⟩)), (4, .pointer (some ⟨b13, 0, none⟩)), (6, .slice A55 t57.length c56), (7, .int .i64 (IntKind.wrap .i64 (t17 + 1)))] (by kernel_rfl) ?_
            refine RegI.done (by kernel_rfl) ?_
            refine RunsI.go 1 [.c 9, .lp 9, .blk 0, .c 41] (by kernel_rfl) ?_
            refine RunsI.only [1, 2, 4, 6, 7] [(1, .slice pA1 p1.length pc1), (2, .pointer (some ⟨b10, 0, none⟩)), (4, .pointer (some ⟨b13, 0, none⟩)), (6, .slice A55 t57.length c56), (7, .int .i64 (IntKind.wrap .i64 (t17 + 1)))] (by kernel_rfl) (by kernel_rfl) ?_
            exact ih t73 t74 t57 (IntKind.wrap .i64 (t17 + 1)) A55 c56 w76 h (h75.pick [0, 1, 2, 3] (by decide))
        clear hJ78
        rcases of_cond h with ⟨hc63, h⟩ | ⟨hc63, h⟩
        · skip
          refine RunsI.fix 35 true hc63 (by kernel_rfl) (by kernel_rfl) ?_
          refine RunsI.cond true 33 (by kernel_rfl) ?_
          refine RunsI.region (by kernel_rfl) ?_
          refine RegI.op (by kernel_rfl) (OpE.loadBox 36 1 34 b10 0 (.agg #[.bool t53, .int .i64 t54]) h58 (by kernel_rfl) (by kernel_rfl) rfl (by kernel_rfl) ?_)
          obtain ⟨⟨t68, t69⟩, hg67, h⟩ := of_bind h
          dsimp only at h
          refine RegI.op (by kernel_rfl) (OpE.call 37 (by kernel_rfl) 17 #[.agg #[.bool t53, .int .i64 t54], .int .u8 0] (by kernel_rfl) ((charabancref20_Write_17_ok K _ w59  t53 t54 0 h58.old' hg67).mono ?_))
          rintro _ w64 ⟨rfl, hb65⟩
          refine ⟨_, rfl, ?_⟩
          have h66 := h58.call hb65
          refine RegI.op (by kernel_rfl) (OpE.storeBox 1 34 b10 0 (.agg #[.bool t68, .int .i64 t69]) [.bool t68, .int .i64 t69] h66 (by kernel_rfl) (by kernel_rfl) rfl (by kernel_rfl) (by kernel_rfl) (by kernel_rfl) ?_)
          intro w70 h71 hk72
          refine RegI.done (by kernel_rfl) ?_
          refine RunsI.only [1, 2, 4, 6, 7, 8] [(1, .slice pA1 p1.length pc1), (2, .pointer (some ⟨b10, 0, none⟩)), (4, .pointer (some ⟨b13, 0, none⟩)), (6, .slice A55 t57.length c56), (7, .int .i64 t17), (8, .int .i64 (rdD p1 t17))] (by kernel_rfl) (by kernel_rfl) ?_
          exact hj79 t68 t69 w70 h (h71.pick [0, 1, 2, 3] (by decide))
        · skip
          refine RunsI.fix 35 false hc63 (by kernel_rfl) (by kernel_rfl) ?_
          refine RunsI.cond false 34 (by kernel_rfl) ?_
          refine RunsI.go 1 [.c 35, .blk 1, .c 40, .lp 9, .blk 0, .c 41] (by kernel_rfl) ?_
          refine RunsI.only [1, 2, 4, 6, 7, 8] [(1, .slice pA1 p1.length pc1), (2, .pointer (some ⟨b10, 0, none⟩)), (4, .pointer (some ⟨b13, 0, none⟩)), (6, .slice A55 t57.length c56), (7, .int .i64 t17), (8, .int .i64 (rdD p1 t17))] (by kernel_rfl) (by kernel_rfl) ?_
          exact hj79 t53 t54 w59 h (h58.pick [0, 1, 2, 3] (by decide))
      clear hJ61
      rcases of_cond h with ⟨hc25, h⟩ | ⟨hc25, h⟩
      · skip
        refine RunsI.fix 22 true hc25 (by kernel_rfl) (by kernel_rfl) ?_
        refine RunsI.cond true 23 (by kernel_rfl) ?_
        refine RunsI.go 1 [.c 24, .c 25, .c 29, .blk 1, .c 40, .lp 9, .blk 0, .c 41] (by kernel_rfl) ?_
        refine RunsI.region (by kernel_rfl) ?_
        refine RegI.op (by kernel_rfl) (OpE.loadBox 24 1 34 b10 0 (.agg #[.bool t11, .int .i64 t12]) h24 (by kernel_rfl) (by kernel_rfl) rfl (by kernel_rfl) ?_)
        refine RegI.pure 1 [1, 2, 4, 6, 7, 8, 24, 25] [(1, .slice pA1 p1.length pc1), (2, .pointer (some ⟨b10, 0, none⟩)), (4, .pointer (some ⟨b13, 0, none⟩)), (6, .slice A14 t16.length c15), (7, .int .i64 t17), (8, .int .i64 (rdD p1 t17)), (24, .agg #[.bool t11, .int .i64 t12]), (25, .int .i64 (rdD p1 t17))] (by kernel_rfl) ?_
        obtain ⟨⟨t30, t31, t32⟩, hg29, h⟩ := of_bind h
        dsimp only at h
        refine RegI.op (by kernel_rfl) (OpE.call 26 (by kernel_rfl) 15 #[.agg #[.bool t11, .int .i64 t12], .int .i64 (rdD p1 t17)] (by kernel_rfl) ((charabancref20_Read_15_ok K _ w  t11 t12 (rdD p1 t17) h24.old' hg29).mono ?_))
        rintro _ w26 ⟨rfl, hb27⟩
        refine ⟨_, rfl, ?_⟩
        have h28 := h24.call hb27
        refine RegI.pure 3 [1, 2, 4, 6, 7, 8, 27, 28] [(1, .slice pA1 p1.length pc1), (2, .pointer (some ⟨b10, 0, none⟩)), (4, .pointer (some ⟨b13, 0, none⟩)), (6, .slice A14 t16.length c15), (7, .int .i64 t17), (8, .int .i64 (rdD p1 t17)), (27, .agg #[.bool t30, .int .i64 t31]), (28, .int .u8 t32)] (by kernel_rfl) ?_
        refine RegI.op (by kernel_rfl) (OpE.box 9 34 [.bool false, .int .i64 0] h28 (by kernel_rfl) (by kernel_rfl) ?_)
        intro w33 b34 h35 hb36
        refine RegI.op (by kernel_rfl) (OpE.storeBox 5 34 b34 0 (.agg #[.bool t30, .int .i64 t31]) [.bool t30, .int .i64 t31] h35 (by kernel_rfl) (by kernel_rfl) rfl (by kernel_rfl) (by kernel_rfl) (by kernel_rfl) ?_)
        intro w37 h38 hk39
        refine RegI.pure 1 [1, 2, 4, 6, 7, 8, 9, 10] [(1, .slice pA1 p1.length pc1), (2, .pointer (some ⟨b10, 0, none⟩)), (4, .pointer (some ⟨b13, 0, none⟩)), (6, .slice A14 t16.length c15), (7, .int .i64 t17), (8, .int .i64 (rdD p1 t17)), (9, .pointer (some ⟨b34, 0, none⟩)), (10, .int .u8 t32)] (by kernel_rfl) ?_
        refine RegI.done (by kernel_rfl) ?_
        refine RunsI.go 1 [.c 26, .c 27, .c 29, .blk 1, .c 40, .lp 9, .blk 0, .c 41] (by kernel_rfl) ?_
        refine RunsI.region (by kernel_rfl) ?_
        refine RegI.op (by kernel_rfl) (OpE.loadBox 29 5 34 b34 0 (.agg #[.bool t30, .int .i64 t31]) h38 (by kernel_rfl) (by kernel_rfl) rfl (by kernel_rfl) ?_)
        refine RegI.op (by kernel_rfl) (OpE.storeBox 1 34 b10 0 (.agg #[.bool t30, .int .i64 t31]) [.bool t30, .int .i64 t31] h38 (by kernel_rfl) (by kernel_rfl) rfl (by kernel_rfl) (by kernel_rfl) (by kernel_rfl) ?_)
        intro w40 h41 hk42
        refine RegI.done (by kernel_rfl) ?_
        refine RunsI.region (by kernel_rfl) ?_
        refine RegI.pure 2 [1, 2, 4, 7, 8, 30, 31] [(1, .slice pA1 p1.length pc1), (2, .pointer (some ⟨b10, 0, none⟩)), (4, .pointer (some ⟨b13, 0, none⟩)), (7, .int .i64 t17), (8, .int .i64 (rdD p1 t17)), (30, .slice A14 t16.length c15), (31, .int .u8 t32)] (by kernel_rfl) ?_
        refine RegI.op (by kernel_rfl) (OpE.lit 32 5 [.int .u8 t32] 1 h41 (by kernel_rfl) (by kernel_rfl) ?_)
        intro w43 b44 h45 hb46
        obtain ⟨hc47, h⟩ := of_cond0 h
        refine RegI.op (by kernel_rfl) (OpE.appendBox 33 3 6 31 5 1 [t32] 0 h45 (by kernel_rfl) (by kernel_rfl) (by kernel_rfl) rfl rfl rfl (cells_int _ _ _ _) hc47 ?_)
        intro w48 A49 c50 h51 hk52
        refine RegI.pure 1 [1, 2, 4, 6, 7, 8] [(1, .slice pA1 p1.length pc1), (2, .pointer (some ⟨b10, 0, none⟩)), (4, .pointer (some ⟨b13, 0, none⟩)), (6, .slice A49 ((t16 ++ [t32]).length) c50), (7, .int .i64 t17), (8, .int .i64 (rdD p1 t17))] (by kernel_rfl) ?_
        refine RegI.done (by kernel_rfl) ?_
        refine RunsI.only [1, 2, 4, 6, 7, 8] [(1, .slice pA1 p1.length pc1), (2, .pointer (some ⟨b10, 0, none⟩)), (4, .pointer (some ⟨b13, 0, none⟩)), (6, .slice A49 ((t16 ++ [t32]).length) c50), (7, .int .i64 t17), (8, .int .i64 (rdD p1 t17))] (by kernel_rfl) (by kernel_rfl) ?_
        exact hj62 t30 t31 (t16 ++ [t32]) A49 c50 w48 h (h51.pick [0, 1, 2, 3] (by decide))
      · skip
        refine RunsI.fix 22 false hc25 (by kernel_rfl) (by kernel_rfl) ?_
        refine RunsI.cond false 28 (by kernel_rfl) ?_
        refine RunsI.go 1 [.c 29, .blk 1, .c 40, .lp 9, .blk 0, .c 41] (by kernel_rfl) ?_
        refine RunsI.only [1, 2, 4, 6, 7, 8] [(1, .slice pA1 p1.length pc1), (2, .pointer (some ⟨b10, 0, none⟩)), (4, .pointer (some ⟨b13, 0, none⟩)), (6, .slice A14 t16.length c15), (7, .int .i64 t17), (8, .int .i64 (rdD p1 t17))] (by kernel_rfl) (by kernel_rfl) ?_
        exact hj62 t11 t12 t16 A14 c15 w h (h24.pick [0, 1, 2, 3] (by decide))
    · skip
      refine RunsI.fix 14 false hc18 (by kernel_rfl) (by kernel_rfl) ?_
      refine RunsI.cond false 14 (by kernel_rfl) ?_
      refine RunsI.go 1 [.c 41] (by kernel_rfl) ?_
      refine RunsI.only [2, 4, 6] [(2, .pointer (some ⟨b10, 0, none⟩)), (4, .pointer (some ⟨b13, 0, none⟩)), (6, .slice A14 t16.length c15)] (by kernel_rfl) (by kernel_rfl) ?_
      exact hk0 t11 t12 t16 A14 c15 w (Option.some.inj h).symm (hH.pick [1, 2, 3] (by decide))
def charabancref20_Play_12.f (K : Nat) (p0_0 : Bool) (p0_1 : Int) (p1 : List Int) : Option (Bool × Int × (List Int)) := (charabancref20_Play_12.l0 K p0_0 p0_1 p1 K p0_0 p0_1 ([] : List Int) 0).bind (fun yx95 => some (yx95.1, yx95.2.1, yx95.2.2))
set_option maxRecDepth 100000 in
theorem charabancref20_Play_12_ok (K : Nat) (M0 : Nat → Prop) (w0 : World) (pA1 : Option Addr) (pc1 : Nat) (p0_0 : Bool) (p0_1 : Int) (p1 : List Int) (ho : ∀ b, M0 b → b < w0.heap.size) (hs1 : Sl (Rp.int .i64) w0 M0 (.slice pA1 p1.length pc1) p1) {r : Bool × Int × (List Int)} (h : charabancref20_Play_12.f K p0_0 p0_1 p1 = some r) :
    Calls Tryd.prog 12 #[.agg #[.bool p0_0, .int .i64 p0_1], .slice pA1 p1.length pc1] w0 (charabancref20_Play_12.post M0 w0 r) := by
  unfold charabancref20_Play_12.f at h
  have h0 : Holds M0 w0 w0 [] := Holds.start ho
  have h01 := h0.addSl (Rp.int .i64) (.slice pA1 p1.length pc1) p1 (hs1.mono (fun _ _ hm => hm.elim id (fun hm => absurd hm (by simp [mines, sl]))))
  have h0 : Holds M0 w0 w0 [sl (Rp.int .i64) (.slice pA1 p1.length pc1) p1] := h01
  refine calls_of F12 rfl [.agg #[.bool p0_0, .int .i64 p0_1], .slice pA1 p1.length pc1] (by kernel_rfl) ?_
  refine RunsI.go 1 [.c 1, .c 2] (by kernel_rfl) ?_
  refine RunsI.region (by kernel_rfl) ?_
  refine RegI.op (by kernel_rfl) (OpE.box 2 34 [.bool p0_0, .int .i64 p0_1] h0 (by kernel_rfl) (by kernel_rfl) ?_)
  intro w1 b2 h3 hb4
  refine RegI.op (by kernel_rfl) (OpE.box 4 34 [.bool false, .int .i64 0] h3 (by kernel_rfl) (by kernel_rfl) ?_)
  intro w5 b6 h7 hb8
  refine RegI.pure 1 [1, 2, 4] [(1, .slice pA1 p1.length pc1), (2, .pointer (some ⟨b2, 0, none⟩)), (4, .pointer (some ⟨b6, 0, none⟩))] (by kernel_rfl) ?_
  refine RegI.done (by kernel_rfl) ?_
  refine RunsI.go 1 [.c 3, .c 4] (by kernel_rfl) ?_
  refine RunsI.region (by kernel_rfl) ?_
  refine RegI.pure 1 [1, 2, 4, 6] [(1, .slice pA1 p1.length pc1), (2, .pointer (some ⟨b2, 0, none⟩)), (4, .pointer (some ⟨b6, 0, none⟩)), (6, .slice none 0 0)] (by kernel_rfl) ?_
  refine RegI.done (by kernel_rfl) ?_
  refine RunsI.go 2 [.c 6, .c 7, .c 41] (by kernel_rfl) ?_
  refine RunsI.region (by kernel_rfl) ?_
  refine RegI.pure 1 [1, 2, 4, 6, 7] [(1, .slice pA1 p1.length pc1), (2, .pointer (some ⟨b2, 0, none⟩)), (4, .pointer (some ⟨b6, 0, none⟩)), (6, .slice none 0 0), (7, .int .i64 0)] (by kernel_rfl) ?_
  refine RegI.done (by kernel_rfl) ?_
  refine RunsI.go 2 [.c 9, .lp 9, .blk 0, .c 41] (by kernel_rfl) ?_
  obtain ⟨x95, hx96, h⟩ := of_bind h
  have h9 := h7.addOwnNil (Rp.int .u8) 5
  refine RunsI.only [1, 2, 4, 6, 7] [(1, .slice pA1 p1.length pc1), (2, .pointer (some ⟨b2, 0, none⟩)), (4, .pointer (some ⟨b6, 0, none⟩)), (6, .slice none (([] : List Int).length) 0), (7, .int .i64 0)] (by kernel_rfl) (by kernel_rfl) ?_
  refine charabancref20_Play_12.l0_ok K M0 w0 pA1 pc1 p0_0 p0_1 p1 b2 b6 _ x95 ?_ K p0_0 p0_1 ([] : List Int) 0 none 0 w5 hx96 (h9.pick [0, 1, 2, 3] (by decide))
  · intro t97 t98 t101 A99 c100 w103 hq107 h102
    (try rw [hq107] at h)
    dsimp only at h
    refine RunsI.go 1 [.c 42, .c 43] (by kernel_rfl) ?_
    refine RunsI.region (by kernel_rfl) ?_
    refine RegI.op (by kernel_rfl) (OpE.loadBox 42 0 34 b2 0 (.agg #[.bool t97, .int .i64 t98]) h102 (by kernel_rfl) (by kernel_rfl) rfl (by kernel_rfl) ?_)
    refine RegI.pure 1 [4, 42, 43] [(4, .pointer (some ⟨b6, 0, none⟩)), (42, .agg #[.bool t97, .int .i64 t98]), (43, .slice A99 t101.length c100)] (by kernel_rfl) ?_
    refine RegI.op (by kernel_rfl) (OpE.storeBox 1 34 b6 0 (.agg #[.bool t97, .int .i64 t98]) [.bool t97, .int .i64 t98] h102 (by kernel_rfl) (by kernel_rfl) rfl (by kernel_rfl) (by kernel_rfl) (by kernel_rfl) ?_)
    intro w104 h105 hk106
    refine RegI.pure 1 [4, 5] [(4, .pointer (some ⟨b6, 0, none⟩)), (5, .slice A99 t101.length c100)] (by kernel_rfl) ?_
    refine RegI.done (by kernel_rfl) ?_
    refine RunsI.retW [.cell 4 34, .tmp 5] [.agg #[.bool t97, .int .i64 t98], .slice A99 t101.length c100] (.tuple #[.agg #[.bool t97, .int .i64 t98], .slice A99 t101.length c100]) (by kernel_rfl) (by kernel_rfl) (ResAt.box 1 34 b6 0 h105 (by kernel_rfl) (by kernel_rfl) rfl (by kernel_rfl) (ResAt.tmp (by kernel_rfl) (by kernel_rfl) rfl)) (by kernel_rfl) ?_
    obtain rfl := Option.some.inj h
    exact ⟨A99, c100, rfl, h105.pick [2] (by decide)⟩
end

/-! ### charabanc/charabanclaw20.plain (function 13) -/
section
def charabanclaw20_plain_13.post (M0 : Nat → Prop) (w0 : World) (r : Bool × Int) : Ending → World → Prop := fun e w => e = .returned (.agg #[.bool r.1, .int .i64 r.2]) ∧ Below w0.heap.size w0 w
def charabanclaw20_plain_13.f (K : Nat) (p0_0 : Bool) (p0_1 : Int) : Option (Bool × Int) := some (p0_0, p0_1)
set_option maxRecDepth 100000 in
theorem charabanclaw20_plain_13_ok (K : Nat) (M0 : Nat → Prop) (w0 : World) (p0_0 : Bool) (p0_1 : Int) (ho : ∀ b, M0 b → b < w0.heap.size) {r : Bool × Int} (h : charabanclaw20_plain_13.f K p0_0 p0_1 = some r) :
    Calls Tryd.prog 13 #[.agg #[.bool p0_0, .int .i64 p0_1]] w0 (charabanclaw20_plain_13.post M0 w0 r) := by
  unfold charabanclaw20_plain_13.f at h
  have h0 : Holds M0 w0 w0 [] := Holds.start ho
  have h0 : Holds M0 w0 w0 [] := h0
  refine calls_of F13 rfl [.agg #[.bool p0_0, .int .i64 p0_1]] (by kernel_rfl) ?_
  refine RunsI.go 1 [.c 1, .c 2] (by kernel_rfl) ?_
  refine RunsI.region (by kernel_rfl) ?_
  refine RegI.op (by kernel_rfl) (OpE.box 1 29 [.bool p0_0, .int .i64 p0_1] h0 (by kernel_rfl) (by kernel_rfl) ?_)
  intro w1 b2 h3 hb4
  refine RegI.op (by kernel_rfl) (OpE.box 2 34 [.bool false, .int .i64 0] h3 (by kernel_rfl) (by kernel_rfl) ?_)
  intro w5 b6 h7 hb8
  refine RegI.done (by kernel_rfl) ?_
  refine RunsI.go 1 [.c 3, .c 4] (by kernel_rfl) ?_
  refine RunsI.region (by kernel_rfl) ?_
  refine RegI.pure 1 [1, 2, 3] [(1, .pointer (some ⟨b2, 0, none⟩)), (2, .pointer (some ⟨b6, 0, none⟩)), (3, .pointer (some ⟨b2, 0, none⟩))] (by kernel_rfl) ?_
  refine RegI.op (by kernel_rfl) (OpE.loadBox 4 0 4 b2 0 (.bool p0_0) h7 (by kernel_rfl) (by kernel_rfl) rfl (by kernel_rfl) ?_)
  refine RegI.pure 1 [2, 4, 5] [(2, .pointer (some ⟨b6, 0, none⟩)), (4, .bool p0_0), (5, .pointer (some ⟨b2, 1, none⟩))] (by kernel_rfl) ?_
  refine RegI.op (by kernel_rfl) (OpE.loadBox 6 0 3 b2 1 (.int .i64 p0_1) h7 (by kernel_rfl) (by kernel_rfl) rfl (by kernel_rfl) ?_)
  refine RegI.pure 1 [2, 7] [(2, .pointer (some ⟨b6, 0, none⟩)), (7, .agg #[.bool p0_0, .int .i64 p0_1])] (by kernel_rfl) ?_
  refine RegI.op (by kernel_rfl) (OpE.storeBox 1 34 b6 0 (.agg #[.bool p0_0, .int .i64 p0_1]) [.bool p0_0, .int .i64 p0_1] h7 (by kernel_rfl) (by kernel_rfl) rfl (by kernel_rfl) (by kernel_rfl) (by kernel_rfl) ?_)
  intro w9 h10 hk11
  refine RegI.done (by kernel_rfl) ?_
  refine RunsI.retW [.cell 2 34] [.agg #[.bool p0_0, .int .i64 p0_1]] (.agg #[.bool p0_0, .int .i64 p0_1]) (by kernel_rfl) (by kernel_rfl) (ResAt.box 1 34 b6 0 h10 (by kernel_rfl) (by kernel_rfl) rfl (by kernel_rfl) rfl) (by kernel_rfl) ?_
  obtain rfl := Option.some.inj h
  exact ⟨rfl, h10.below⟩
end
end Go.Proofs.YtngcadmhnbpgjaaDoor.Latch
