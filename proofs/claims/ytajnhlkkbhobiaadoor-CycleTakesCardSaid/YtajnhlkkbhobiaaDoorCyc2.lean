/- Functions of the program as plain Lean functions, each with the proof that the call comes to it; written by wip/eng.py. -/
import Derived.Test.YtajnhlkkbhobiaaDoorCyc
set_option linter.unusedVariables false
set_option linter.unusedSimpArgs false
set_option maxHeartbeats 4000000
namespace Go.Proofs.YtajnhlkkbhobiaaDoor.Cyc
open Go.RowKit Go.Eng
/-! ### charabanc/charabancref11.Number (function 54) -/
section
def charabancref11_Number_54.post (M0 : Nat → Prop) (w0 : World) (r : ByteArray) : Ending → World → Prop := fun e w => e = .returned (.string r) ∧ Below w0.heap.size w0 w
def charabancref11_Number_54.Ok (SELF : Int → Option ByteArray) : Prop := ∀ (M0 : Nat → Prop) (w0 : World) (p0 : Int) (ho : ∀ b, M0 b → b < w0.heap.size) {r : ByteArray} (h : SELF p0 = some r), Calls Tryd.prog 54 #[.int .i64 p0] w0 (charabancref11_Number_54.post M0 w0 r)
def charabancref11_Number_54.l0 (K : Nat)(SELF : Int → Option ByteArray) (p0 : Int) : Nat → Int → ByteArray → Option ByteArray
  | 0, _, _ => none
  | k + 1, t9, t10 => cond (cutR (Int.tmod t9 10) (IntKind.wrap .i64 ((Int.tmod t9 10) + 1)) (⟨#[48, 49, 50, 51, 52, 53, 54, 55, 56, 57]⟩ : ByteArray).size) (cond (mayCat (strCut (⟨#[48, 49, 50, 51, 52, 53, 54, 55, 56, 57]⟩ : ByteArray) (Int.tmod t9 10) (IntKind.wrap .i64 ((Int.tmod t9 10) + 1))).size t10.size) (cond ((IntKind.wrap .i64 (Int.tdiv t9 10)) == 0) (some ((strCut (⟨#[48, 49, 50, 51, 52, 53, 54, 55, 56, 57]⟩ : ByteArray) (Int.tmod t9 10) (IntKind.wrap .i64 ((Int.tmod t9 10) + 1))) ++ t10)) (charabancref11_Number_54.l0 K SELF p0 k (IntKind.wrap .i64 (Int.tdiv t9 10)) ((strCut (⟨#[48, 49, 50, 51, 52, 53, 54, 55, 56, 57]⟩ : ByteArray) (Int.tmod t9 10) (IntKind.wrap .i64 ((Int.tmod t9 10) + 1))) ++ t10))) none) none
set_option maxRecDepth 100000 in
theorem charabancref11_Number_54.l0_ok (K : Nat) (SELF : Int → Option ByteArray) (hSELF : charabancref11_Number_54.Ok SELF) (M0 : Nat → Prop) (w0 : World) (p0 : Int) (R : Ending → World → Prop) (x : ByteArray) (hk0 : ∀ (t14 : ByteArray) (w1 : World), x = t14 → Holds M0 w0 w1 [] → R (.returned (.string t14)) w1) :
    ∀ (k : Nat) (t9 : Int) (t10 : ByteArray) (w : World), charabancref11_Number_54.l0 K SELF p0 k t9 t10 = some x → Holds M0 w0 w [] → RunsI F54 [.c 22, .lp 22, .blk 0] [(0, .int .i64 t9), (3, .string t10)] w R := by
  intro k
  induction k with
  | zero => intro t9 t10 w h hH; exact absurd h (by simp [charabancref11_Number_54.l0])
  | succ k ih =>
    intro t9 t10 w h hH
    rw [charabancref11_Number_54.l0.eq_2] at h
    refine RunsI.go 1 [.c 23, .blk 1, .lp 22, .blk 0] (by kernel_rfl) ?_
    refine RunsI.go 1 [.c 24, .c 25, .blk 1, .lp 22, .blk 0] (by kernel_rfl) ?_
    refine RunsI.region (by kernel_rfl) ?_
    refine RegI.pure 5 [0, 3, 15, 18] [(0, .int .i64 t9), (3, .string t10), (15, .int .i64 (Int.tmod t9 10)), (18, .int .i64 (IntKind.wrap .i64 ((Int.tmod t9 10) + 1)))] (by kernel_rfl) ?_
    obtain ⟨hc11, h⟩ := of_cond0 h
    refine RegI.op (by kernel_rfl) (OpE.run 19 (by kernel_rfl) (run_strCut (T := 9) (s := (⟨#[48, 49, 50, 51, 52, 53, 54, 55, 56, 57]⟩ : ByteArray)) (lo := (some (Int.tmod t9 10))) (hi := (some (IntKind.wrap .i64 ((Int.tmod t9 10) + 1)))) (by kernel_rfl) (by kernel_rfl) hc11) ?_)
    refine RegI.pure 1 [0, 19, 20] [(0, .int .i64 t9), (19, .string (strCut (⟨#[48, 49, 50, 51, 52, 53, 54, 55, 56, 57]⟩ : ByteArray) (Int.tmod t9 10) (IntKind.wrap .i64 ((Int.tmod t9 10) + 1)))), (20, .string t10)] (by kernel_rfl) ?_
    obtain ⟨hc12, h⟩ := of_cond0 h
    refine RegI.op (by kernel_rfl) (OpE.run 21 (by kernel_rfl) (run_cat (a := (strCut (⟨#[48, 49, 50, 51, 52, 53, 54, 55, 56, 57]⟩ : ByteArray) (Int.tmod t9 10) (IntKind.wrap .i64 ((Int.tmod t9 10) + 1)))) (b := t10) (by kernel_rfl) hc12) ?_)
    refine RegI.pure 1 [0, 3] [(0, .int .i64 t9), (3, .string ((strCut (⟨#[48, 49, 50, 51, 52, 53, 54, 55, 56, 57]⟩ : ByteArray) (Int.tmod t9 10) (IntKind.wrap .i64 ((Int.tmod t9 10) + 1))) ++ t10))] (by kernel_rfl) ?_
    refine RegI.done (by kernel_rfl) ?_
    refine RunsI.go 1 [.c 26, .c 27, .blk 1, .lp 22, .blk 0] (by kernel_rfl) ?_
    refine RunsI.region (by kernel_rfl) ?_
    refine RegI.pure 3 [0, 3] [(0, .int .i64 (IntKind.wrap .i64 (Int.tdiv t9 10))), (3, .string ((strCut (⟨#[48, 49, 50, 51, 52, 53, 54, 55, 56, 57]⟩ : ByteArray) (Int.tmod t9 10) (IntKind.wrap .i64 ((Int.tmod t9 10) + 1))) ++ t10))] (by kernel_rfl) ?_
    refine RegI.done (by kernel_rfl) ?_
    refine RunsI.go 1 [.c 28, .c 29, .blk 1, .lp 22, .blk 0] (by kernel_rfl) ?_
    refine RunsI.region (by kernel_rfl) ?_
    refine RegI.pure 2 [0, 3, 25] [(0, .int .i64 (IntKind.wrap .i64 (Int.tdiv t9 10))), (3, .string ((strCut (⟨#[48, 49, 50, 51, 52, 53, 54, 55, 56, 57]⟩ : ByteArray) (Int.tmod t9 10) (IntKind.wrap .i64 ((Int.tmod t9 10) + 1))) ++ t10)), (25, .bool ((IntKind.wrap .i64 (Int.tdiv t9 10)) == 0))] (by kernel_rfl) ?_
    refine RegI.done (by kernel_rfl) ?_
    rcases of_cond h with ⟨hc13, h⟩ | ⟨hc13, h⟩
    · skip
      refine RunsI.fix 25 true hc13 (by kernel_rfl) (by kernel_rfl) ?_
      refine RunsI.cond true 30 (by kernel_rfl) ?_
      refine RunsI.go 1 [.c 31, .c 32, .blk 1, .lp 22, .blk 0] (by kernel_rfl) ?_
      refine RunsI.region (by kernel_rfl) ?_
      refine RegI.pure 2 [2] [(2, .string ((strCut (⟨#[48, 49, 50, 51, 52, 53, 54, 55, 56, 57]⟩ : ByteArray) (Int.tmod t9 10) (IntKind.wrap .i64 ((Int.tmod t9 10) + 1))) ++ t10))] (by kernel_rfl) ?_
      refine RegI.done (by kernel_rfl) ?_
      refine RunsI.ret (.string ((strCut (⟨#[48, 49, 50, 51, 52, 53, 54, 55, 56, 57]⟩ : ByteArray) (Int.tmod t9 10) (IntKind.wrap .i64 ((Int.tmod t9 10) + 1))) ++ t10)) (by kernel_rfl) (by kernel_rfl) ?_
      exact hk0 ((strCut (⟨#[48, 49, 50, 51, 52, 53, 54, 55, 56, 57]⟩ : ByteArray) (Int.tmod t9 10) (IntKind.wrap .i64 ((Int.tmod t9 10) + 1))) ++ t10) w (Option.some.inj h).symm (hH.pick [] (by decide))
    · skip
      refine RunsI.fix 25 false hc13 (by kernel_rfl) (by kernel_rfl) ?_
      refine RunsI.cond false 33 (by kernel_rfl) ?_
      refine RunsI.go 1 [.blk 1, .lp 22, .blk 0] (by kernel_rfl) ?_
      refine RunsI.go 2 [.c 22, .lp 22, .blk 0] (by kernel_rfl) ?_
      refine RunsI.only [0, 3] [(0, .int .i64 (IntKind.wrap .i64 (Int.tdiv t9 10))), (3, .string ((strCut (⟨#[48, 49, 50, 51, 52, 53, 54, 55, 56, 57]⟩ : ByteArray) (Int.tmod t9 10) (IntKind.wrap .i64 ((Int.tmod t9 10) + 1))) ++ t10))] (by kernel_rfl) (by kernel_rfl) ?_
      exact ih (IntKind.wrap .i64 (Int.tdiv t9 10)) ((strCut (⟨#[48, 49, 50, 51, 52, 53, 54, 55, 56, 57]⟩ : ByteArray) (Int.tmod t9 10) (IntKind.wrap .i64 ((Int.tmod t9 10) + 1))) ++ t10) w h (hH.pick [] (by decide))
def charabancref11_Number_54.g (K : Nat) : Nat → Int → Option ByteArray
  | 0, _ => none
  | k + 1, p0 => cond (decide (p0 < 0)) (cond (p0 == (IntKind.wrap .i64 (0 - p0))) (some (⟨#[45, 57, 50, 50, 51, 51, 55, 50, 48, 51, 54, 56, 53, 52, 55, 55, 53, 56, 48, 56]⟩ : ByteArray)) (((charabancref11_Number_54.g K k) (IntKind.wrap .i64 (0 - p0))).bind fun t7 => cond (mayCat (⟨#[45]⟩ : ByteArray).size t7.size) (some ((⟨#[45]⟩ : ByteArray) ++ t7)) none)) ((charabancref11_Number_54.l0 K (charabancref11_Number_54.g K k) p0 K p0 (⟨#[]⟩ : ByteArray)).bind (fun t17 => some t17))
def charabancref11_Number_54.f (K : Nat) (p0 : Int) : Option ByteArray := charabancref11_Number_54.g K K p0
set_option maxRecDepth 100000 in
theorem charabancref11_Number_54.g_ok (K : Nat) : ∀ k, charabancref11_Number_54.Ok (charabancref11_Number_54.g K k) := by
  intro k
  induction k with
  | zero => intro M0 w0 p0 ho r h; exact absurd h (by simp [charabancref11_Number_54.g])
  | succ k ih =>
    intro M0 w0 p0 ho r h
    generalize hS : charabancref11_Number_54.g K k = SELF at ih
    rw [charabancref11_Number_54.g.eq_2, hS] at h
    clear hS
    have hSELF := ih
    clear ih
    have h0 : Holds M0 w0 w0 [] := Holds.start ho
    have h0 : Holds M0 w0 w0 [] := h0
    refine calls_of F54 rfl [.int .i64 p0] (by kernel_rfl) ?_
    refine RunsI.go 1 [.c 1, .c 2] (by kernel_rfl) ?_
    refine RunsI.region (by kernel_rfl) ?_
    refine RegI.pure 1 [0] [(0, .int .i64 p0)] (by kernel_rfl) ?_
    refine RegI.done (by kernel_rfl) ?_
    refine RunsI.go 2 [.c 4, .c 5, .c 18] (by kernel_rfl) ?_
    refine RunsI.region (by kernel_rfl) ?_
    refine RegI.pure 2 [0, 5] [(0, .int .i64 p0), (5, .bool (decide (p0 < 0)))] (by kernel_rfl) ?_
    refine RegI.done (by kernel_rfl) ?_
    rcases of_cond h with ⟨hc1, h⟩ | ⟨hc1, h⟩
    · skip
      refine RunsI.fix 5 true hc1 (by kernel_rfl) (by kernel_rfl) ?_
      refine RunsI.cond true 6 (by kernel_rfl) ?_
      refine RunsI.go 2 [.c 8, .c 9, .c 14, .c 18] (by kernel_rfl) ?_
      refine RunsI.region (by kernel_rfl) ?_
      refine RegI.pure 4 [0, 9] [(0, .int .i64 p0), (9, .bool (p0 == (IntKind.wrap .i64 (0 - p0))))] (by kernel_rfl) ?_
      refine RegI.done (by kernel_rfl) ?_
      rcases of_cond h with ⟨hc2, h⟩ | ⟨hc2, h⟩
      · skip
        refine RunsI.fix 9 true hc2 (by kernel_rfl) (by kernel_rfl) ?_
        refine RunsI.cond true 10 (by kernel_rfl) ?_
        refine RunsI.go 1 [.c 11, .c 12, .c 14, .c 18] (by kernel_rfl) ?_
        refine RunsI.region (by kernel_rfl) ?_
        refine RegI.pure 1 [2] [(2, .string (⟨#[45, 57, 50, 50, 51, 51, 55, 50, 48, 51, 54, 56, 53, 52, 55, 55, 53, 56, 48, 56]⟩ : ByteArray))] (by kernel_rfl) ?_
        refine RegI.done (by kernel_rfl) ?_
        refine RunsI.ret (.string (⟨#[45, 57, 50, 50, 51, 51, 55, 50, 48, 51, 54, 56, 53, 52, 55, 55, 53, 56, 48, 56]⟩ : ByteArray)) (by kernel_rfl) (by kernel_rfl) ?_
        obtain rfl := Option.some.inj h
        exact ⟨rfl, h0.below⟩
      · skip
        refine RunsI.fix 9 false hc2 (by kernel_rfl) (by kernel_rfl) ?_
        refine RunsI.cond false 13 (by kernel_rfl) ?_
        refine RunsI.go 1 [.c 14, .c 18] (by kernel_rfl) ?_
        refine RunsI.go 1 [.c 15, .c 16, .c 18] (by kernel_rfl) ?_
        refine RunsI.region (by kernel_rfl) ?_
        refine RegI.pure 2 [11] [(11, .int .i64 (IntKind.wrap .i64 (0 - p0)))] (by kernel_rfl) ?_
        obtain ⟨t7, hg6, h⟩ := of_bind h
        refine RegI.op (by kernel_rfl) (OpE.call 12 (by kernel_rfl) 54 #[.int .i64 (IntKind.wrap .i64 (0 - p0))] (by kernel_rfl) ((hSELF _ w0  (IntKind.wrap .i64 (0 - p0)) h0.old' hg6).mono ?_))
        rintro _ w3 ⟨rfl, hb4⟩
        refine ⟨_, rfl, ?_⟩
        have h5 := h0.call hb4
        obtain ⟨hc8, h⟩ := of_cond0 h
        refine RegI.op (by kernel_rfl) (OpE.run 13 (by kernel_rfl) (run_cat (a := (⟨#[45]⟩ : ByteArray)) (b := t7) (by kernel_rfl) hc8) ?_)
        refine RegI.pure 1 [2] [(2, .string ((⟨#[45]⟩ : ByteArray) ++ t7))] (by kernel_rfl) ?_
        refine RegI.done (by kernel_rfl) ?_
        refine RunsI.ret (.string ((⟨#[45]⟩ : ByteArray) ++ t7)) (by kernel_rfl) (by kernel_rfl) ?_
        obtain rfl := Option.some.inj h
        exact ⟨rfl, h5.below⟩
    · skip
      refine RunsI.fix 5 false hc1 (by kernel_rfl) (by kernel_rfl) ?_
      refine RunsI.cond false 17 (by kernel_rfl) ?_
      refine RunsI.go 1 [.c 18] (by kernel_rfl) ?_
      refine RunsI.go 1 [.c 19, .c 20] (by kernel_rfl) ?_
      refine RunsI.region (by kernel_rfl) ?_
      refine RegI.pure 1 [0, 3] [(0, .int .i64 p0), (3, .string (⟨#[]⟩ : ByteArray))] (by kernel_rfl) ?_
      refine RegI.done (by kernel_rfl) ?_
      refine RunsI.go 2 [.c 22, .lp 22, .blk 0] (by kernel_rfl) ?_
      obtain ⟨x15, hx16, h⟩ := of_bind h
      refine RunsI.only [0, 3] [(0, .int .i64 p0), (3, .string (⟨#[]⟩ : ByteArray))] (by kernel_rfl) (by kernel_rfl) ?_
      refine charabancref11_Number_54.l0_ok K SELF hSELF M0 w0 p0 _ x15 ?_ K p0 (⟨#[]⟩ : ByteArray) w0 hx16 (h0.pick [] (by decide))
      · intro t17 w19 hq20 h18
        (try rw [hq20] at h)
        obtain rfl := Option.some.inj h
        exact ⟨rfl, h18.below⟩
theorem charabancref11_Number_54_ok (K : Nat) (M0 : Nat → Prop) (w0 : World) (p0 : Int) (ho : ∀ b, M0 b → b < w0.heap.size) {r : ByteArray} (h : charabancref11_Number_54.f K p0 = some r) :
    Calls Tryd.prog 54 #[.int .i64 p0] w0 (charabancref11_Number_54.post M0 w0 r) := charabancref11_Number_54.g_ok K K M0 w0 p0 ho h
end

/-! ### charabanc/charabancref17.name (function 60) -/
section
def charabancref17_name_60.post (M0 : Nat → Prop) (w0 : World) (r : ByteArray) : Ending → World → Prop := fun e w => e = .returned (.string r) ∧ Below w0.heap.size w0 w
def charabancref17_name_60.f (K : Nat) (p0 : Int) (p1 : Int) : Option ByteArray := Let (fun (t2 : Bool) => Let (fun (t11 : Int) => Let (fun (t27 : Int) => (charabancref11_Number_54.f K (IntKind.wrap .i64 (p1 - t27))).bind fun t37 => cond (mayCat (⟨#[84]⟩ : ByteArray).size t37.size) (some ((⟨#[84]⟩ : ByteArray) ++ t37)) none) (fun j30 => cond (p0 == 6) (Let (fun (t19 : Bool) => cond t19 (some (⟨#[84, 87]⟩ : ByteArray)) (cond (decide (p1 > 4)) (j30 2) (j30 t11))) (fun j22 => cond (p1 == 3) (j22 true) (j22 (p1 == 4)))) (j30 t11))) (fun j14 => cond t2 (cond (p1 == 3) (some (⟨#[84, 87]⟩ : ByteArray)) (cond (decide (p1 > 3)) (j14 1) (j14 0))) (j14 0))) (fun j5 => cond (p0 == 4) (j5 true) (j5 (p0 == 5)))
set_option maxRecDepth 100000 in
theorem charabancref17_name_60_ok (K : Nat) (M0 : Nat → Prop) (w0 : World) (p0 : Int) (p1 : Int) (ho : ∀ b, M0 b → b < w0.heap.size) {r : ByteArray} (h : charabancref17_name_60.f K p0 p1 = some r) :
    Calls Tryd.prog 60 #[.int .i64 p0, .int .i64 p1] w0 (charabancref17_name_60.post M0 w0 r) := by
  unfold charabancref17_name_60.f at h
  have h0 : Holds M0 w0 w0 [] := Holds.start ho
  have h0 : Holds M0 w0 w0 [] := h0
  refine calls_of F60 rfl [.int .i64 p0, .int .i64 p1] (by kernel_rfl) ?_
  refine RunsI.go 1 [.c 1, .c 2] (by kernel_rfl) ?_
  refine RunsI.region (by kernel_rfl) ?_
  refine RegI.pure 1 [0, 1] [(0, .int .i64 p0), (1, .int .i64 p1)] (by kernel_rfl) ?_
  refine RegI.done (by kernel_rfl) ?_
  refine RunsI.go 1 [.c 3, .c 4] (by kernel_rfl) ?_
  refine RunsI.region (by kernel_rfl) ?_
  refine RegI.pure 1 [0, 1, 5] [(0, .int .i64 p0), (1, .int .i64 p1), (5, .int .i64 0)] (by kernel_rfl) ?_
  refine RegI.done (by kernel_rfl) ?_
  refine RunsI.go 2 [.c 6, .c 7, .c 22] (by kernel_rfl) ?_
  refine RunsI.region (by kernel_rfl) ?_
  refine RegI.pure 3 [0, 1, 5, 8] [(0, .int .i64 p0), (1, .int .i64 p1), (5, .int .i64 0), (8, .bool (p0 == 4))] (by kernel_rfl) ?_
  obtain ⟨j5, hJ6, h⟩ := of_let h
  have hj7 : ∀ (t2 : Bool) (w4 : World), j5 t2 = some r → Holds M0 w0 w4 [] → RegI F60 6 [.c 7, .c 22] 6 [(0, .int .i64 p0), (1, .int .i64 p1), (5, .int .i64 0), (11, .bool t2)] w4 (charabancref17_name_60.post M0 w0 r) := by
    intro t2 w4 h h3
    rw [hJ6] at h
    clear hJ6
    dsimp only at h
    refine RegI.done (by kernel_rfl) ?_
    obtain ⟨j14, hJ15, h⟩ := of_let h
    have hj16 : ∀ (t11 : Int) (w13 : World), j14 t11 = some r → Holds M0 w0 w13 [] → RunsI F60 [.c 22] [(0, .int .i64 p0), (1, .int .i64 p1), (5, .int .i64 t11)] w13 (charabancref17_name_60.post M0 w0 r) := by
      intro t11 w13 h h12
      rw [hJ15] at h
      clear hJ15
      dsimp only at h
      refine RunsI.go 2 [.c 24, .c 25, .c 40] (by kernel_rfl) ?_
      refine RunsI.region (by kernel_rfl) ?_
      refine RegI.pure 2 [1, 5, 17] [(1, .int .i64 p1), (5, .int .i64 t11), (17, .bool (p0 == 6))] (by kernel_rfl) ?_
      refine RegI.done (by kernel_rfl) ?_
      obtain ⟨j30, hJ31, h⟩ := of_let h
      have hj32 : ∀ (t27 : Int) (w29 : World), j30 t27 = some r → Holds M0 w0 w29 [] → RunsI F60 [.c 40] [(1, .int .i64 p1), (5, .int .i64 t27)] w29 (charabancref17_name_60.post M0 w0 r) := by
        intro t27 w29 h h28
        rw [hJ31] at h
        clear hJ31
        dsimp only at h
        refine RunsI.go 1 [.c 41, .c 42] (by kernel_rfl) ?_
        refine RunsI.region (by kernel_rfl) ?_
        refine RegI.pure 3 [28] [(28, .int .i64 (IntKind.wrap .i64 (p1 - t27)))] (by kernel_rfl) ?_
        obtain ⟨t37, hg36, h⟩ := of_bind h
        refine RegI.op (by kernel_rfl) (OpE.call 29 (by kernel_rfl) 54 #[.int .i64 (IntKind.wrap .i64 (p1 - t27))] (by kernel_rfl) ((charabancref11_Number_54_ok K _ w29  (IntKind.wrap .i64 (p1 - t27)) h28.old' hg36).mono ?_))
        rintro _ w33 ⟨rfl, hb34⟩
        refine ⟨_, rfl, ?_⟩
        have h35 := h28.call hb34
        obtain ⟨hc38, h⟩ := of_cond0 h
        refine RegI.op (by kernel_rfl) (OpE.run 30 (by kernel_rfl) (run_cat (a := (⟨#[84]⟩ : ByteArray)) (b := t37) (by kernel_rfl) hc38) ?_)
        refine RegI.pure 1 [4] [(4, .string ((⟨#[84]⟩ : ByteArray) ++ t37))] (by kernel_rfl) ?_
        refine RegI.done (by kernel_rfl) ?_
        refine RunsI.ret (.string ((⟨#[84]⟩ : ByteArray) ++ t37)) (by kernel_rfl) (by kernel_rfl) ?_
        obtain rfl := Option.some.inj h
        exact ⟨rfl, h35.below⟩
      clear hJ31
      rcases of_cond h with ⟨hc17, h⟩ | ⟨hc17, h⟩
      · skip
        refine RunsI.fix 17 true hc17 (by kernel_rfl) (by kernel_rfl) ?_
        refine RunsI.cond true 26 (by kernel_rfl) ?_
        refine RunsI.go 2 [.c 28, .c 29, .c 34, .c 40] (by kernel_rfl) ?_
        refine RunsI.region (by kernel_rfl) ?_
        refine RegI.pure 3 [1, 5, 20] [(1, .int .i64 p1), (5, .int .i64 t11), (20, .bool (p1 == 3))] (by kernel_rfl) ?_
        obtain ⟨j22, hJ23, h⟩ := of_let h
        have hj24 : ∀ (t19 : Bool) (w21 : World), j22 t19 = some r → Holds M0 w0 w21 [] → RegI F60 28 [.c 29, .c 34, .c 40] 6 [(1, .int .i64 p1), (5, .int .i64 t11), (23, .bool t19)] w21 (charabancref17_name_60.post M0 w0 r) := by
          intro t19 w21 h h20
          rw [hJ23] at h
          clear hJ23
          dsimp only at h
          refine RegI.done (by kernel_rfl) ?_
          rcases of_cond h with ⟨hc25, h⟩ | ⟨hc25, h⟩
          · skip
            refine RunsI.fix 23 true hc25 (by kernel_rfl) (by kernel_rfl) ?_
            refine RunsI.cond true 30 (by kernel_rfl) ?_
            refine RunsI.go 1 [.c 31, .c 32, .c 34, .c 40] (by kernel_rfl) ?_
            refine RunsI.region (by kernel_rfl) ?_
            refine RegI.pure 1 [4] [(4, .string (⟨#[84, 87]⟩ : ByteArray))] (by kernel_rfl) ?_
            refine RegI.done (by kernel_rfl) ?_
            refine RunsI.ret (.string (⟨#[84, 87]⟩ : ByteArray)) (by kernel_rfl) (by kernel_rfl) ?_
            obtain rfl := Option.some.inj h
            exact ⟨rfl, h20.below⟩
          · skip
            refine RunsI.fix 23 false hc25 (by kernel_rfl) (by kernel_rfl) ?_
            refine RunsI.cond false 33 (by kernel_rfl) ?_
            refine RunsI.go 1 [.c 34, .c 40] (by kernel_rfl) ?_
            refine RunsI.go 1 [.c 35, .c 36, .c 40] (by kernel_rfl) ?_
            refine RunsI.region (by kernel_rfl) ?_
            refine RegI.pure 2 [1, 5, 25] [(1, .int .i64 p1), (5, .int .i64 t11), (25, .bool (decide (p1 > 4)))] (by kernel_rfl) ?_
            refine RegI.done (by kernel_rfl) ?_
            rcases of_cond h with ⟨hc26, h⟩ | ⟨hc26, h⟩
            · skip
              refine RunsI.fix 25 true hc26 (by kernel_rfl) (by kernel_rfl) ?_
              refine RunsI.cond true 37 (by kernel_rfl) ?_
              refine RunsI.region (by kernel_rfl) ?_
              refine RegI.pure 1 [1, 5] [(1, .int .i64 p1), (5, .int .i64 2)] (by kernel_rfl) ?_
              refine RegI.done (by kernel_rfl) ?_
              refine RunsI.only [1, 5] [(1, .int .i64 p1), (5, .int .i64 2)] (by kernel_rfl) (by kernel_rfl) ?_
              exact hj32 2 w21 h (h20.pick [] (by decide))
            · skip
              refine RunsI.fix 25 false hc26 (by kernel_rfl) (by kernel_rfl) ?_
              refine RunsI.cond false 38 (by kernel_rfl) ?_
              refine RunsI.go 1 [.c 40] (by kernel_rfl) ?_
              refine RunsI.only [1, 5] [(1, .int .i64 p1), (5, .int .i64 t11)] (by kernel_rfl) (by kernel_rfl) ?_
              exact hj32 t11 w21 h (h20.pick [] (by decide))
        clear hJ23
        rcases of_cond h with ⟨hc18, h⟩ | ⟨hc18, h⟩
        · skip
          refine RegI.fix 20 true hc18 (by kernel_rfl) (by kernel_rfl) ?_
          refine RegI.pure 3 [1, 5, 23] [(1, .int .i64 p1), (5, .int .i64 t11), (23, .bool true)] (by kernel_rfl) ?_
          refine RegI.only [1, 5, 23] [(1, .int .i64 p1), (5, .int .i64 t11), (23, .bool true)] (by kernel_rfl) (by kernel_rfl) ?_
          exact hj24 true w13 h (h12.pick [] (by decide))
        · skip
          refine RegI.fix 20 false hc18 (by kernel_rfl) (by kernel_rfl) ?_
          refine RegI.pure 3 [1, 5, 23] [(1, .int .i64 p1), (5, .int .i64 t11), (23, .bool (p1 == 4))] (by kernel_rfl) ?_
          refine RegI.only [1, 5, 23] [(1, .int .i64 p1), (5, .int .i64 t11), (23, .bool (p1 == 4))] (by kernel_rfl) (by kernel_rfl) ?_
          exact hj24 (p1 == 4) w13 h (h12.pick [] (by decide))
      · skip
        refine RunsI.fix 17 false hc17 (by kernel_rfl) (by kernel_rfl) ?_
        refine RunsI.cond false 39 (by kernel_rfl) ?_
        refine RunsI.go 1 [.c 40] (by kernel_rfl) ?_
        refine RunsI.only [1, 5] [(1, .int .i64 p1), (5, .int .i64 t11)] (by kernel_rfl) (by kernel_rfl) ?_
        exact hj32 t11 w13 h (h12.pick [] (by decide))
    clear hJ15
    rcases of_cond h with ⟨hc8, h⟩ | ⟨hc8, h⟩
    · skip
      refine RunsI.fix 11 true hc8 (by kernel_rfl) (by kernel_rfl) ?_
      refine RunsI.cond true 8 (by kernel_rfl) ?_
      refine RunsI.go 2 [.c 10, .c 11, .c 16, .c 22] (by kernel_rfl) ?_
      refine RunsI.region (by kernel_rfl) ?_
      refine RegI.pure 2 [0, 1, 5, 13] [(0, .int .i64 p0), (1, .int .i64 p1), (5, .int .i64 0), (13, .bool (p1 == 3))] (by kernel_rfl) ?_
      refine RegI.done (by kernel_rfl) ?_
      rcases of_cond h with ⟨hc9, h⟩ | ⟨hc9, h⟩
      · skip
        refine RunsI.fix 13 true hc9 (by kernel_rfl) (by kernel_rfl) ?_
        refine RunsI.cond true 12 (by kernel_rfl) ?_
        refine RunsI.go 1 [.c 13, .c 14, .c 16, .c 22] (by kernel_rfl) ?_
        refine RunsI.region (by kernel_rfl) ?_
        refine RegI.pure 1 [4] [(4, .string (⟨#[84, 87]⟩ : ByteArray))] (by kernel_rfl) ?_
        refine RegI.done (by kernel_rfl) ?_
        refine RunsI.ret (.string (⟨#[84, 87]⟩ : ByteArray)) (by kernel_rfl) (by kernel_rfl) ?_
        obtain rfl := Option.some.inj h
        exact ⟨rfl, h3.below⟩
      · skip
        refine RunsI.fix 13 false hc9 (by kernel_rfl) (by kernel_rfl) ?_
        refine RunsI.cond false 15 (by kernel_rfl) ?_
        refine RunsI.go 1 [.c 16, .c 22] (by kernel_rfl) ?_
        refine RunsI.go 1 [.c 17, .c 18, .c 22] (by kernel_rfl) ?_
        refine RunsI.region (by kernel_rfl) ?_
        refine RegI.pure 2 [0, 1, 5, 15] [(0, .int .i64 p0), (1, .int .i64 p1), (5, .int .i64 0), (15, .bool (decide (p1 > 3)))] (by kernel_rfl) ?_
        refine RegI.done (by kernel_rfl) ?_
        rcases of_cond h with ⟨hc10, h⟩ | ⟨hc10, h⟩
        · skip
          refine RunsI.fix 15 true hc10 (by kernel_rfl) (by kernel_rfl) ?_
          refine RunsI.cond true 19 (by kernel_rfl) ?_
          refine RunsI.region (by kernel_rfl) ?_
          refine RegI.pure 1 [0, 1, 5] [(0, .int .i64 p0), (1, .int .i64 p1), (5, .int .i64 1)] (by kernel_rfl) ?_
          refine RegI.done (by kernel_rfl) ?_
          refine RunsI.only [0, 1, 5] [(0, .int .i64 p0), (1, .int .i64 p1), (5, .int .i64 1)] (by kernel_rfl) (by kernel_rfl) ?_
          exact hj16 1 w4 h (h3.pick [] (by decide))
        · skip
          refine RunsI.fix 15 false hc10 (by kernel_rfl) (by kernel_rfl) ?_
          refine RunsI.cond false 20 (by kernel_rfl) ?_
          refine RunsI.go 1 [.c 22] (by kernel_rfl) ?_
          refine RunsI.only [0, 1, 5] [(0, .int .i64 p0), (1, .int .i64 p1), (5, .int .i64 0)] (by kernel_rfl) (by kernel_rfl) ?_
          exact hj16 0 w4 h (h3.pick [] (by decide))
    · skip
      refine RunsI.fix 11 false hc8 (by kernel_rfl) (by kernel_rfl) ?_
      refine RunsI.cond false 21 (by kernel_rfl) ?_
      refine RunsI.go 1 [.c 22] (by kernel_rfl) ?_
      refine RunsI.only [0, 1, 5] [(0, .int .i64 p0), (1, .int .i64 p1), (5, .int .i64 0)] (by kernel_rfl) (by kernel_rfl) ?_
      exact hj16 0 w4 h (h3.pick [] (by decide))
  clear hJ6
  rcases of_cond h with ⟨hc1, h⟩ | ⟨hc1, h⟩
  · skip
    refine RegI.fix 8 true hc1 (by kernel_rfl) (by kernel_rfl) ?_
    refine RegI.pure 3 [0, 1, 5, 11] [(0, .int .i64 p0), (1, .int .i64 p1), (5, .int .i64 0), (11, .bool true)] (by kernel_rfl) ?_
    refine RegI.only [0, 1, 5, 11] [(0, .int .i64 p0), (1, .int .i64 p1), (5, .int .i64 0), (11, .bool true)] (by kernel_rfl) (by kernel_rfl) ?_
    exact hj7 true w0 h (h0.pick [] (by decide))
  · skip
    refine RegI.fix 8 false hc1 (by kernel_rfl) (by kernel_rfl) ?_
    refine RegI.pure 3 [0, 1, 5, 11] [(0, .int .i64 p0), (1, .int .i64 p1), (5, .int .i64 0), (11, .bool (p0 == 5))] (by kernel_rfl) ?_
    refine RegI.only [0, 1, 5, 11] [(0, .int .i64 p0), (1, .int .i64 p1), (5, .int .i64 0), (11, .bool (p0 == 5))] (by kernel_rfl) (by kernel_rfl) ?_
    exact hj7 (p0 == 5) w0 h (h0.pick [] (by decide))
end

/-! ### charabanc/charabancref17.walk (function 43) -/
section
def charabancref17_walk_43.post (M0 : Nat → Prop) (w0 : World) (r : (List ByteArray) × Int) : Ending → World → Prop := fun e w => ∃ (A1 : Option Addr) (c1 : Nat), e = .returned (.tuple #[.slice A1 r.1.length c1, .int .i64 r.2]) ∧ Holds M0 w0 w [own Rp.str 9 (.slice A1 r.1.length c1) r.1]
def charabancref17_walk_43.l0 (K : Nat) (p0_0 : Int) (p0_1 : Int) (p0_2 : Int) (p0_3 : Int) (p1 : List Bool) : Nat → (List ByteArray) → Int → Int → Int → Int → Int → Int → Int → Int → Option ((List ByteArray) × Int)
  | 0, _, _, _, _, _, _, _, _, _ => none
  | k + 1, t24, t25, t27, t28, t29, t30, t31, t32, t33 => cond (decide (t33 < (p1.length : Int))) (cond (inR t33 p1.length) ((charabancref17_Tick_12.f K t27 t28 t29 t30 t31 t32 (rdD p1 t33)).bind fun yt45 => Let (fun (t91 : (List ByteArray)) => Let (fun (t98 : Int) => cond yt45.2.2.2.2.2.2.2 (some (t91, t98)) (charabancref17_walk_43.l0 K p0_0 p0_1 p0_2 p0_3 p1 k t91 t98 yt45.1 yt45.2.1 yt45.2.2.1 yt45.2.2.2.1 yt45.2.2.2.2.1 yt45.2.2.2.2.2.1 (IntKind.wrap .i64 (t33 + 1)))) (fun j101 => cond yt45.2.2.2.2.2.2.1 (j101 (IntKind.wrap .i64 (t33 + 1))) (j101 t25))) (fun j94 => cond (yt45.2.2.2.2.1 == t31) (cond (mayBe (t24.length + ([(⟨#[84, 87]⟩ : ByteArray)] : List ByteArray).length) 16) (j94 (t24 ++ ([(⟨#[84, 87]⟩ : ByteArray)] : List ByteArray))) none) ((charabancref17_name_60.f K p0_0 yt45.2.2.2.2.1).bind fun t77 => cond (mayBe (t24.length + ([t77] : List ByteArray).length) 16) (j94 (t24 ++ ([t77] : List ByteArray))) none))) none) ((charabancref17_Tick_12.f K t27 t28 t29 t30 t31 t32 false).bind fun yt112 => Let (fun (t158 : (List ByteArray)) => Let (fun (t165 : Int) => cond yt112.2.2.2.2.2.2.2 (some (t158, t165)) (charabancref17_walk_43.l0 K p0_0 p0_1 p0_2 p0_3 p1 k t158 t165 yt112.1 yt112.2.1 yt112.2.2.1 yt112.2.2.2.1 yt112.2.2.2.2.1 yt112.2.2.2.2.2.1 (IntKind.wrap .i64 (t33 + 1)))) (fun j168 => cond yt112.2.2.2.2.2.2.1 (j168 (IntKind.wrap .i64 (t33 + 1))) (j168 t25))) (fun j161 => cond (yt112.2.2.2.2.1 == t31) (cond (mayBe (t24.length + ([(⟨#[84, 87]⟩ : ByteArray)] : List ByteArray).length) 16) (j161 (t24 ++ ([(⟨#[84, 87]⟩ : ByteArray)] : List ByteArray))) none) ((charabancref17_name_60.f K p0_0 yt112.2.2.2.2.1).bind fun t144 => cond (mayBe (t24.length + ([t144] : List ByteArray).length) 16) (j161 (t24 ++ ([t144] : List ByteArray))) none)))
set_option maxRecDepth 100000 in
theorem charabancref17_walk_43.l0_ok (K : Nat) (M0 : Nat → Prop) (w0 : World) (pA1 : Option Addr) (pc1 : Nat) (p0_0 : Int) (p0_1 : Int) (p0_2 : Int) (p0_3 : Int) (p1 : List Bool) (b21 : Nat) (b26 : Nat) (R : Ending → World → Prop) (x : (List ByteArray) × Int) (hk0 : ∀ (t177 : List ByteArray) (t178 : Int) (A175 : Option Addr) (c176 : Nat) (w1 : World), x = (t177, t178) → Holds M0 w0 w1 [own Rp.str 9 (.slice A175 t177.length c176) t177] → R (.returned (.tuple #[.slice A175 t177.length c176, .int .i64 t178])) w1) :
    ∀ (k : Nat) (t24 : List ByteArray) (t25 : Int) (t27 : Int) (t28 : Int) (t29 : Int) (t30 : Int) (t31 : Int) (t32 : Int) (t33 : Int) (A22 : Option Addr) (c23 : Nat) (w : World), charabancref17_walk_43.l0 K p0_0 p0_1 p0_2 p0_3 p1 k t24 t25 t27 t28 t29 t30 t31 t32 t33 = some x → Holds M0 w0 w [sl Rp.bool (.slice pA1 p1.length pc1) p1, box b21 24 [.int .i64 p0_0, .int .u16 p0_1, .int .u8 p0_2, .int .i64 p0_3], own Rp.str 9 (.slice A22 t24.length c23) t24, box b26 30 [.int .i64 t27, .int .u16 t28, .int .u8 t29, .int .i64 t30, .int .i64 t31, .int .i64 t32]] → RunsI F43 [.c 20, .lp 20, .blk 0] [(1, .slice pA1 p1.length pc1), (2, .pointer (some ⟨b21, 0, none⟩)), (6, .slice A22 t24.length c23), (7, .int .i64 t25), (8, .pointer (some ⟨b26, 0, none⟩)), (9, .int .i64 t33)] w R := by
  intro k
  induction k with
  | zero => intro t24 t25 t27 t28 t29 t30 t31 t32 t33 A22 c23 w h hH; exact absurd h (by simp [charabancref17_walk_43.l0])
  | succ k ih =>
    intro t24 t25 t27 t28 t29 t30 t31 t32 t33 A22 c23 w h hH
    rw [charabancref17_walk_43.l0.eq_2] at h
    refine RunsI.go 1 [.c 21, .c 47, .lp 20, .blk 0] (by kernel_rfl) ?_
    refine RunsI.go 2 [.c 23, .c 24, .blk 1, .c 47, .lp 20, .blk 0] (by kernel_rfl) ?_
    refine RunsI.region (by kernel_rfl) ?_
    refine RegI.pure 5 [1, 2, 6, 7, 8, 9, 25] [(1, .slice pA1 p1.length pc1), (2, .pointer (some ⟨b21, 0, none⟩)), (6, .slice A22 t24.length c23), (7, .int .i64 t25), (8, .pointer (some ⟨b26, 0, none⟩)), (9, .int .i64 t33), (25, .bool (decide (t33 < (p1.length : Int))))] (by kernel_rfl) ?_
    rcases of_cond h with ⟨hc34, h⟩ | ⟨hc34, h⟩
    · skip
      refine RegI.fix 25 true hc34 (by kernel_rfl) (by kernel_rfl) ?_
      refine RegI.pure 2 [1, 2, 6, 7, 8, 9, 25, 26, 27] [(1, .slice pA1 p1.length pc1), (2, .pointer (some ⟨b21, 0, none⟩)), (6, .slice A22 t24.length c23), (7, .int .i64 t25), (8, .pointer (some ⟨b26, 0, none⟩)), (9, .int .i64 t33), (25, .bool true), (26, .slice pA1 p1.length pc1), (27, .int .i64 t33)] (by kernel_rfl) ?_
      obtain ⟨hc35, h⟩ := of_cond0 h
      refine RegI.op (by kernel_rfl) (OpE.idxSl 28 0 38 t33 hH (by kernel_rfl) rfl (by kernel_rfl) (by kernel_rfl) hc35 ?_)
      intro b36 o37 cs38 hk39 h40
      obtain rfl := hk39
      refine RegI.op (by kernel_rfl) (OpE.loadCel 29 4 4 b36 o37 0 (.bool (rdD p1 t33)) h40 (by kernel_rfl) (by kernel_rfl) rfl (by kernel_rfl) ?_)
      refine RegI.pure 2 [1, 2, 6, 7, 8, 9, 10, 26, 27, 28, 29] [(1, .slice pA1 p1.length pc1), (2, .pointer (some ⟨b21, 0, none⟩)), (6, .slice A22 t24.length c23), (7, .int .i64 t25), (8, .pointer (some ⟨b26, 0, none⟩)), (9, .int .i64 t33), (10, .bool (rdD p1 t33)), (26, .slice pA1 p1.length pc1), (27, .int .i64 t33), (28, .pointer (some ⟨b36, o37, none⟩)), (29, .bool (rdD p1 t33))] (by kernel_rfl) ?_
      refine RegI.done (by kernel_rfl) ?_
      refine RunsI.go 1 [.c 25, .c 26, .blk 1, .c 47, .lp 20, .blk 0] (by kernel_rfl) ?_
      refine RunsI.region (by kernel_rfl) ?_
      refine RegI.op (by kernel_rfl) (OpE.loadBox 32 3 30 b26 0 (.agg #[.int .i64 t27, .int .u16 t28, .int .u8 t29, .int .i64 t30, .int .i64 t31, .int .i64 t32]) h40 (by kernel_rfl) (by kernel_rfl) rfl (by kernel_rfl) ?_)
      refine RegI.pure 1 [1, 2, 6, 7, 8, 9, 26, 27, 28, 29, 32, 33] [(1, .slice pA1 p1.length pc1), (2, .pointer (some ⟨b21, 0, none⟩)), (6, .slice A22 t24.length c23), (7, .int .i64 t25), (8, .pointer (some ⟨b26, 0, none⟩)), (9, .int .i64 t33), (26, .slice pA1 p1.length pc1), (27, .int .i64 t33), (28, .pointer (some ⟨b36, o37, none⟩)), (29, .bool (rdD p1 t33)), (32, .agg #[.int .i64 t27, .int .u16 t28, .int .u8 t29, .int .i64 t30, .int .i64 t31, .int .i64 t32]), (33, .bool (rdD p1 t33))] (by kernel_rfl) ?_
      obtain ⟨⟨t45, t46, t47, t48, t49, t50, t51, t52⟩, hg44, h⟩ := of_bind h
      dsimp only at h
      refine RegI.op (by kernel_rfl) (OpE.call 34 (by kernel_rfl) 12 #[.agg #[.int .i64 t27, .int .u16 t28, .int .u8 t29, .int .i64 t30, .int .i64 t31, .int .i64 t32], .bool (rdD p1 t33)] (by kernel_rfl) ((charabancref17_Tick_12_ok K _ w  t27 t28 t29 t30 t31 t32 (rdD p1 t33) h40.old' hg44).mono ?_))
      rintro _ w41 ⟨rfl, hb42⟩
      refine ⟨_, rfl, ?_⟩
      have h43 := h40.call hb42
      refine RegI.pure 4 [1, 2, 6, 7, 8, 9, 26, 27, 28, 29, 35, 36, 37] [(1, .slice pA1 p1.length pc1), (2, .pointer (some ⟨b21, 0, none⟩)), (6, .slice A22 t24.length c23), (7, .int .i64 t25), (8, .pointer (some ⟨b26, 0, none⟩)), (9, .int .i64 t33), (26, .slice pA1 p1.length pc1), (27, .int .i64 t33), (28, .pointer (some ⟨b36, o37, none⟩)), (29, .bool (rdD p1 t33)), (35, .agg #[.int .i64 t45, .int .u16 t46, .int .u8 t47, .int .i64 t48, .int .i64 t49, .int .i64 t50]), (36, .bool t51), (37, .bool t52)] (by kernel_rfl) ?_
      refine RegI.op (by kernel_rfl) (OpE.box 11 30 [.int .i64 0, .int .u16 0, .int .u8 0, .int .i64 0, .int .i64 0, .int .i64 0] h43 (by kernel_rfl) (by kernel_rfl) ?_)
      intro w53 b54 h55 hb56 hn57
      refine RegI.op (by kernel_rfl) (OpE.storeBox 5 30 b54 0 (.agg #[.int .i64 t45, .int .u16 t46, .int .u8 t47, .int .i64 t48, .int .i64 t49, .int .i64 t50]) [.int .i64 t45, .int .u16 t46, .int .u8 t47, .int .i64 t48, .int .i64 t49, .int .i64 t50] h55 (by kernel_rfl) (by kernel_rfl) rfl (by kernel_rfl) (by kernel_rfl) (by kernel_rfl) ?_)
      intro w58 h59 hk60
      refine RegI.pure 2 [1, 2, 6, 7, 8, 9, 11, 12, 13, 26, 27, 28, 29] [(1, .slice pA1 p1.length pc1), (2, .pointer (some ⟨b21, 0, none⟩)), (6, .slice A22 t24.length c23), (7, .int .i64 t25), (8, .pointer (some ⟨b26, 0, none⟩)), (9, .int .i64 t33), (11, .pointer (some ⟨b54, 0, none⟩)), (12, .bool t51), (13, .bool t52), (26, .slice pA1 p1.length pc1), (27, .int .i64 t33), (28, .pointer (some ⟨b36, o37, none⟩)), (29, .bool (rdD p1 t33))] (by kernel_rfl) ?_
      refine RegI.done (by kernel_rfl) ?_
      refine RunsI.go 2 [.c 28, .c 29, .c 32, .blk 1, .c 47, .lp 20, .blk 0] (by kernel_rfl) ?_
      refine RunsI.region (by kernel_rfl) ?_
      refine RegI.pure 1 [1, 2, 6, 7, 8, 9, 11, 12, 13, 26, 27, 28, 29, 38] [(1, .slice pA1 p1.length pc1), (2, .pointer (some ⟨b21, 0, none⟩)), (6, .slice A22 t24.length c23), (7, .int .i64 t25), (8, .pointer (some ⟨b26, 0, none⟩)), (9, .int .i64 t33), (11, .pointer (some ⟨b54, 0, none⟩)), (12, .bool t51), (13, .bool t52), (26, .slice pA1 p1.length pc1), (27, .int .i64 t33), (28, .pointer (some ⟨b36, o37, none⟩)), (29, .bool (rdD p1 t33)), (38, .pointer (some ⟨b54, 4, none⟩))] (by kernel_rfl) ?_
      refine RegI.op (by kernel_rfl) (OpE.loadBox 39 5 3 b54 4 (.int .i64 t49) h59 (by kernel_rfl) (by kernel_rfl) rfl (by kernel_rfl) ?_)
      refine RegI.pure 1 [1, 2, 6, 7, 8, 9, 11, 12, 13, 26, 27, 28, 29, 39, 40] [(1, .slice pA1 p1.length pc1), (2, .pointer (some ⟨b21, 0, none⟩)), (6, .slice A22 t24.length c23), (7, .int .i64 t25), (8, .pointer (some ⟨b26, 0, none⟩)), (9, .int .i64 t33), (11, .pointer (some ⟨b54, 0, none⟩)), (12, .bool t51), (13, .bool t52), (26, .slice pA1 p1.length pc1), (27, .int .i64 t33), (28, .pointer (some ⟨b36, o37, none⟩)), (29, .bool (rdD p1 t33)), (39, .int .i64 t49), (40, .pointer (some ⟨b26, 4, none⟩))] (by kernel_rfl) ?_
      refine RegI.op (by kernel_rfl) (OpE.loadBox 41 3 3 b26 4 (.int .i64 t31) h59 (by kernel_rfl) (by kernel_rfl) rfl (by kernel_rfl) ?_)
      refine RegI.pure 1 [1, 2, 6, 7, 8, 9, 11, 12, 13, 26, 27, 28, 29, 42] [(1, .slice pA1 p1.length pc1), (2, .pointer (some ⟨b21, 0, none⟩)), (6, .slice A22 t24.length c23), (7, .int .i64 t25), (8, .pointer (some ⟨b26, 0, none⟩)), (9, .int .i64 t33), (11, .pointer (some ⟨b54, 0, none⟩)), (12, .bool t51), (13, .bool t52), (26, .slice pA1 p1.length pc1), (27, .int .i64 t33), (28, .pointer (some ⟨b36, o37, none⟩)), (29, .bool (rdD p1 t33)), (42, .bool (t49 == t31))] (by kernel_rfl) ?_
      refine RegI.done (by kernel_rfl) ?_
      obtain ⟨j94, hJ95, h⟩ := of_let h
      have hj96 : ∀ (t91 : List ByteArray) (A89 : Option Addr) (c90 : Nat) (w93 : World), j94 t91 = some x → Holds M0 w0 w93 [sl Rp.bool (.slice pA1 p1.length pc1) p1, box b21 24 [.int .i64 p0_0, .int .u16 p0_1, .int .u8 p0_2, .int .i64 p0_3], own Rp.str 9 (.slice A89 t91.length c90) t91, box b26 30 [.int .i64 t27, .int .u16 t28, .int .u8 t29, .int .i64 t30, .int .i64 t31, .int .i64 t32], box b54 30 [.int .i64 t45, .int .u16 t46, .int .u8 t47, .int .i64 t48, .int .i64 t49, .int .i64 t50], cel b36 o37 [.bool (rdD p1 t33)]] → RunsI F43 [.c 32, .blk 1, .c 47, .lp 20, .blk 0] [(1, .slice pA1 p1.length pc1), (2, .pointer (some ⟨b21, 0, none⟩)), (6, .slice A89 t91.length c90), (7, .int .i64 t25), (8, .pointer (some ⟨b26, 0, none⟩)), (9, .int .i64 t33), (11, .pointer (some ⟨b54, 0, none⟩)), (12, .bool t51), (13, .bool t52), (26, .slice pA1 p1.length pc1), (27, .int .i64 t33), (28, .pointer (some ⟨b36, o37, none⟩)), (29, .bool (rdD p1 t33))] w93 R := by
        intro t91 A89 c90 w93 h h92
        rw [hJ95] at h
        clear hJ95
        dsimp only at h
        refine RunsI.go 2 [.c 34, .c 35, .c 38, .blk 1, .c 47, .lp 20, .blk 0] (by kernel_rfl) ?_
        refine RunsI.region (by kernel_rfl) ?_
        refine RegI.pure 1 [1, 2, 6, 7, 8, 9, 11, 13, 26, 27, 28, 29, 54] [(1, .slice pA1 p1.length pc1), (2, .pointer (some ⟨b21, 0, none⟩)), (6, .slice A89 t91.length c90), (7, .int .i64 t25), (8, .pointer (some ⟨b26, 0, none⟩)), (9, .int .i64 t33), (11, .pointer (some ⟨b54, 0, none⟩)), (13, .bool t52), (26, .slice pA1 p1.length pc1), (27, .int .i64 t33), (28, .pointer (some ⟨b36, o37, none⟩)), (29, .bool (rdD p1 t33)), (54, .bool t51)] (by kernel_rfl) ?_
        refine RegI.done (by kernel_rfl) ?_
        obtain ⟨j101, hJ102, h⟩ := of_let h
        have hj103 : ∀ (t98 : Int) (w100 : World), j101 t98 = some x → Holds M0 w0 w100 [sl Rp.bool (.slice pA1 p1.length pc1) p1, box b21 24 [.int .i64 p0_0, .int .u16 p0_1, .int .u8 p0_2, .int .i64 p0_3], own Rp.str 9 (.slice A89 t91.length c90) t91, box b26 30 [.int .i64 t27, .int .u16 t28, .int .u8 t29, .int .i64 t30, .int .i64 t31, .int .i64 t32], box b54 30 [.int .i64 t45, .int .u16 t46, .int .u8 t47, .int .i64 t48, .int .i64 t49, .int .i64 t50], cel b36 o37 [.bool (rdD p1 t33)]] → RunsI F43 [.c 38, .blk 1, .c 47, .lp 20, .blk 0] [(1, .slice pA1 p1.length pc1), (2, .pointer (some ⟨b21, 0, none⟩)), (6, .slice A89 t91.length c90), (7, .int .i64 t98), (8, .pointer (some ⟨b26, 0, none⟩)), (9, .int .i64 t33), (11, .pointer (some ⟨b54, 0, none⟩)), (13, .bool t52), (26, .slice pA1 p1.length pc1), (27, .int .i64 t33), (28, .pointer (some ⟨b36, o37, none⟩)), (29, .bool (rdD p1 t33))] w100 R := by
          intro t98 w100 h h99
          rw [hJ102] at h
          clear hJ102
          dsimp only at h
          refine RunsI.go 2 [.c 40, .c 41, .c 46, .blk 1, .c 47, .lp 20, .blk 0] (by kernel_rfl) ?_
          refine RunsI.region (by kernel_rfl) ?_
          refine RegI.pure 1 [1, 2, 6, 7, 8, 9, 11, 26, 27, 28, 29, 57] [(1, .slice pA1 p1.length pc1), (2, .pointer (some ⟨b21, 0, none⟩)), (6, .slice A89 t91.length c90), (7, .int .i64 t98), (8, .pointer (some ⟨b26, 0, none⟩)), (9, .int .i64 t33), (11, .pointer (some ⟨b54, 0, none⟩)), (26, .slice pA1 p1.length pc1), (27, .int .i64 t33), (28, .pointer (some ⟨b36, o37, none⟩)), (29, .bool (rdD p1 t33)), (57, .bool t52)] (by kernel_rfl) ?_
          refine RegI.done (by kernel_rfl) ?_
          rcases of_cond h with ⟨hc104, h⟩ | ⟨hc104, h⟩
          · skip
            refine RunsI.fix 57 true hc104 (by kernel_rfl) (by kernel_rfl) ?_
            refine RunsI.cond true 42 (by kernel_rfl) ?_
            refine RunsI.go 1 [.c 43, .c 44, .c 46, .blk 1, .c 47, .lp 20, .blk 0] (by kernel_rfl) ?_
            refine RunsI.region (by kernel_rfl) ?_
            refine RegI.pure 4 [4, 5] [(4, .slice A89 t91.length c90), (5, .int .i64 t98)] (by kernel_rfl) ?_
            refine RegI.done (by kernel_rfl) ?_
            refine RunsI.ret (.tuple #[.slice A89 t91.length c90, .int .i64 t98]) (by kernel_rfl) (by kernel_rfl) ?_
            exact hk0 t91 t98 A89 c90 w100 (Option.some.inj h).symm (h99.pick [2] (by decide))
          · skip
            refine RunsI.fix 57 false hc104 (by kernel_rfl) (by kernel_rfl) ?_
            refine RunsI.cond false 45 (by kernel_rfl) ?_
            refine RunsI.go 1 [.c 46, .blk 1, .c 47, .lp 20, .blk 0] (by kernel_rfl) ?_
            refine RunsI.region (by kernel_rfl) ?_
            refine RegI.op (by kernel_rfl) (OpE.loadBox 60 4 30 b54 0 (.agg #[.int .i64 t45, .int .u16 t46, .int .u8 t47, .int .i64 t48, .int .i64 t49, .int .i64 t50]) h99 (by kernel_rfl) (by kernel_rfl) rfl (by kernel_rfl) ?_)
            refine RegI.op (by kernel_rfl) (OpE.storeBox 3 30 b26 0 (.agg #[.int .i64 t45, .int .u16 t46, .int .u8 t47, .int .i64 t48, .int .i64 t49, .int .i64 t50]) [.int .i64 t45, .int .u16 t46, .int .u8 t47, .int .i64 t48, .int .i64 t49, .int .i64 t50] h99 (by kernel_rfl) (by kernel_rfl) rfl (by kernel_rfl) (by kernel_rfl) (by kernel_rfl) ?_)
            intro w105 h106 hk107
            refine RegI.done (by kernel_rfl) ?_
            refine RunsI.go 1 [.c 47, .lp 20, .blk 0] (by kernel_rfl) ?_
            refine RunsI.region (by kernel_rfl) ?_
            refine RegI.pure 3 [1, 2, 6, 7, 8, 9, 26, 27, 28, 29] [(1, .slice pA1 p1.length pc1), (2, .pointer (some ⟨b21, 0, none⟩)), (6, .slice A89 t91.length c90), (7, .int .i64 t98), (8, .pointer (some ⟨b26, 0, none⟩)), (9, .int .i64 (IntKind.wrap .i64 (t33 + 1))), (26, .slice pA1 p1.length pc1), (27, .int .i64 t33), (28, .pointer (some ⟨b36, o37, none⟩)), (29, .bool (rdD p1 t33))] (by kernel_rfl) ?_
            refine RegI.done (by kernel_rfl) ?_
            refine RunsI.go 1 [.c 20, .lp 20, .blk 0] (by kernel_rfl) ?_
            refine RunsI.only [1, 2, 6, 7, 8, 9] [(1, .slice pA1 p1.length pc1), (2, .pointer (some ⟨b21, 0, none⟩)), (6, .slice A89 t91.length c90), (7, .int .i64 t98), (8, .pointer (some ⟨b26, 0, none⟩)), (9, .int .i64 (IntKind.wrap .i64 (t33 + 1)))] (by kernel_rfl) (by kernel_rfl) ?_
            exact ih t91 t98 t45 t46 t47 t48 t49 t50 (IntKind.wrap .i64 (t33 + 1)) A89 c90 w105 h (h106.pick [0, 1, 2, 3] (by decide))
        clear hJ102
        rcases of_cond h with ⟨hc97, h⟩ | ⟨hc97, h⟩
        · skip
          refine RunsI.fix 54 true hc97 (by kernel_rfl) (by kernel_rfl) ?_
          refine RunsI.cond true 36 (by kernel_rfl) ?_
          refine RunsI.region (by kernel_rfl) ?_
          refine RegI.pure 3 [1, 2, 6, 7, 8, 9, 11, 13, 26, 27, 28, 29] [(1, .slice pA1 p1.length pc1), (2, .pointer (some ⟨b21, 0, none⟩)), (6, .slice A89 t91.length c90), (7, .int .i64 (IntKind.wrap .i64 (t33 + 1))), (8, .pointer (some ⟨b26, 0, none⟩)), (9, .int .i64 t33), (11, .pointer (some ⟨b54, 0, none⟩)), (13, .bool t52), (26, .slice pA1 p1.length pc1), (27, .int .i64 t33), (28, .pointer (some ⟨b36, o37, none⟩)), (29, .bool (rdD p1 t33))] (by kernel_rfl) ?_
          refine RegI.done (by kernel_rfl) ?_
          refine RunsI.only [1, 2, 6, 7, 8, 9, 11, 13, 26, 27, 28, 29] [(1, .slice pA1 p1.length pc1), (2, .pointer (some ⟨b21, 0, none⟩)), (6, .slice A89 t91.length c90), (7, .int .i64 (IntKind.wrap .i64 (t33 + 1))), (8, .pointer (some ⟨b26, 0, none⟩)), (9, .int .i64 t33), (11, .pointer (some ⟨b54, 0, none⟩)), (13, .bool t52), (26, .slice pA1 p1.length pc1), (27, .int .i64 t33), (28, .pointer (some ⟨b36, o37, none⟩)), (29, .bool (rdD p1 t33))] (by kernel_rfl) (by kernel_rfl) ?_
          exact hj103 (IntKind.wrap .i64 (t33 + 1)) w93 h (h92.pick [0, 1, 2, 3, 4, 5] (by decide))
        · skip
          refine RunsI.fix 54 false hc97 (by kernel_rfl) (by kernel_rfl) ?_
          refine RunsI.cond false 37 (by kernel_rfl) ?_
          refine RunsI.go 1 [.c 38, .blk 1, .c 47, .lp 20, .blk 0] (by kernel_rfl) ?_
          refine RunsI.only [1, 2, 6, 7, 8, 9, 11, 13, 26, 27, 28, 29] [(1, .slice pA1 p1.length pc1), (2, .pointer (some ⟨b21, 0, none⟩)), (6, .slice A89 t91.length c90), (7, .int .i64 t25), (8, .pointer (some ⟨b26, 0, none⟩)), (9, .int .i64 t33), (11, .pointer (some ⟨b54, 0, none⟩)), (13, .bool t52), (26, .slice pA1 p1.length pc1), (27, .int .i64 t33), (28, .pointer (some ⟨b36, o37, none⟩)), (29, .bool (rdD p1 t33))] (by kernel_rfl) (by kernel_rfl) ?_
          exact hj103 t25 w93 h (h92.pick [0, 1, 2, 3, 4, 5] (by decide))
      clear hJ95
      rcases of_cond h with ⟨hc61, h⟩ | ⟨hc61, h⟩
      · skip
        refine RunsI.fix 42 true hc61 (by kernel_rfl) (by kernel_rfl) ?_
        refine RunsI.cond true 30 (by kernel_rfl) ?_
        refine RunsI.region (by kernel_rfl) ?_
        refine RegI.pure 1 [1, 2, 7, 8, 9, 11, 12, 13, 26, 27, 28, 29, 43] [(1, .slice pA1 p1.length pc1), (2, .pointer (some ⟨b21, 0, none⟩)), (7, .int .i64 t25), (8, .pointer (some ⟨b26, 0, none⟩)), (9, .int .i64 t33), (11, .pointer (some ⟨b54, 0, none⟩)), (12, .bool t51), (13, .bool t52), (26, .slice pA1 p1.length pc1), (27, .int .i64 t33), (28, .pointer (some ⟨b36, o37, none⟩)), (29, .bool (rdD p1 t33)), (43, .slice A22 t24.length c23)] (by kernel_rfl) ?_
        refine RegI.op (by kernel_rfl) (OpE.lit 44 9 [.string (⟨#[84, 87]⟩ : ByteArray)] 1 h59 (by kernel_rfl) (by kernel_rfl) ?_)
        intro w62 b63 h64 hb65 hn66
        obtain ⟨hc67, h⟩ := of_cond0 h
        refine RegI.op (by kernel_rfl) (OpE.appendBox 45 2 6 42 9 16 ([(⟨#[84, 87]⟩ : ByteArray)] : List ByteArray) 0 h64 (by kernel_rfl) (by kernel_rfl) (by kernel_rfl) rfl rfl rfl (cells_str _ _ _) hc67 ?_)
        intro w68 A69 c70 h71 hk72
        refine RegI.pure 1 [1, 2, 6, 7, 8, 9, 11, 12, 13, 26, 27, 28, 29] [(1, .slice pA1 p1.length pc1), (2, .pointer (some ⟨b21, 0, none⟩)), (6, .slice A69 ((t24 ++ ([(⟨#[84, 87]⟩ : ByteArray)] : List ByteArray)).length) c70), (7, .int .i64 t25), (8, .pointer (some ⟨b26, 0, none⟩)), (9, .int .i64 t33), (11, .pointer (some ⟨b54, 0, none⟩)), (12, .bool t51), (13, .bool t52), (26, .slice pA1 p1.length pc1), (27, .int .i64 t33), (28, .pointer (some ⟨b36, o37, none⟩)), (29, .bool (rdD p1 t33))] (by kernel_rfl) ?_
        refine RegI.done (by kernel_rfl) ?_
        refine RunsI.only [1, 2, 6, 7, 8, 9, 11, 12, 13, 26, 27, 28, 29] [(1, .slice pA1 p1.length pc1), (2, .pointer (some ⟨b21, 0, none⟩)), (6, .slice A69 ((t24 ++ ([(⟨#[84, 87]⟩ : ByteArray)] : List ByteArray)).length) c70), (7, .int .i64 t25), (8, .pointer (some ⟨b26, 0, none⟩)), (9, .int .i64 t33), (11, .pointer (some ⟨b54, 0, none⟩)), (12, .bool t51), (13, .bool t52), (26, .slice pA1 p1.length pc1), (27, .int .i64 t33), (28, .pointer (some ⟨b36, o37, none⟩)), (29, .bool (rdD p1 t33))] (by kernel_rfl) (by kernel_rfl) ?_
        exact hj96 (t24 ++ ([(⟨#[84, 87]⟩ : ByteArray)] : List ByteArray)) A69 c70 w68 h (h71.pick [0, 1, 2, 3, 5, 4] (by decide))
      · skip
        refine RunsI.fix 42 false hc61 (by kernel_rfl) (by kernel_rfl) ?_
        refine RunsI.cond false 31 (by kernel_rfl) ?_
        refine RunsI.region (by kernel_rfl) ?_
        refine RegI.pure 2 [1, 2, 7, 8, 9, 11, 12, 13, 26, 27, 28, 29, 46, 47] [(1, .slice pA1 p1.length pc1), (2, .pointer (some ⟨b21, 0, none⟩)), (7, .int .i64 t25), (8, .pointer (some ⟨b26, 0, none⟩)), (9, .int .i64 t33), (11, .pointer (some ⟨b54, 0, none⟩)), (12, .bool t51), (13, .bool t52), (26, .slice pA1 p1.length pc1), (27, .int .i64 t33), (28, .pointer (some ⟨b36, o37, none⟩)), (29, .bool (rdD p1 t33)), (46, .slice A22 t24.length c23), (47, .pointer (some ⟨b21, 0, none⟩))] (by kernel_rfl) ?_
        refine RegI.op (by kernel_rfl) (OpE.loadBox 48 1 3 b21 0 (.int .i64 p0_0) h59 (by kernel_rfl) (by kernel_rfl) rfl (by kernel_rfl) ?_)
        refine RegI.pure 1 [1, 2, 7, 8, 9, 11, 12, 13, 26, 27, 28, 29, 46, 48, 49] [(1, .slice pA1 p1.length pc1), (2, .pointer (some ⟨b21, 0, none⟩)), (7, .int .i64 t25), (8, .pointer (some ⟨b26, 0, none⟩)), (9, .int .i64 t33), (11, .pointer (some ⟨b54, 0, none⟩)), (12, .bool t51), (13, .bool t52), (26, .slice pA1 p1.length pc1), (27, .int .i64 t33), (28, .pointer (some ⟨b36, o37, none⟩)), (29, .bool (rdD p1 t33)), (46, .slice A22 t24.length c23), (48, .int .i64 p0_0), (49, .pointer (some ⟨b54, 4, none⟩))] (by kernel_rfl) ?_
        refine RegI.op (by kernel_rfl) (OpE.loadBox 50 5 3 b54 4 (.int .i64 t49) h59 (by kernel_rfl) (by kernel_rfl) rfl (by kernel_rfl) ?_)
        obtain ⟨t77, hg76, h⟩ := of_bind h
        refine RegI.op (by kernel_rfl) (OpE.call 51 (by kernel_rfl) 60 #[.int .i64 p0_0, .int .i64 t49] (by kernel_rfl) ((charabancref17_name_60_ok K _ w58  p0_0 t49 h59.old' hg76).mono ?_))
        rintro _ w73 ⟨rfl, hb74⟩
        refine ⟨_, rfl, ?_⟩
        have h75 := h59.call hb74
        refine RegI.op (by kernel_rfl) (OpE.lit 52 9 [.string t77] 1 h75 (by kernel_rfl) (by kernel_rfl) ?_)
        intro w78 b79 h80 hb81 hn82
        obtain ⟨hc83, h⟩ := of_cond0 h
        refine RegI.op (by kernel_rfl) (OpE.appendBox 53 2 6 42 9 16 ([t77] : List ByteArray) 0 h80 (by kernel_rfl) (by kernel_rfl) (by kernel_rfl) rfl rfl rfl (cells_str _ _ _) hc83 ?_)
        intro w84 A85 c86 h87 hk88
        refine RegI.pure 1 [1, 2, 6, 7, 8, 9, 11, 12, 13, 26, 27, 28, 29] [(1, .slice pA1 p1.length pc1), (2, .pointer (some ⟨b21, 0, none⟩)), (6, .slice A85 ((t24 ++ ([t77] : List ByteArray)).length) c86), (7, .int .i64 t25), (8, .pointer (some ⟨b26, 0, none⟩)), (9, .int .i64 t33), (11, .pointer (some ⟨b54, 0, none⟩)), (12, .bool t51), (13, .bool t52), (26, .slice pA1 p1.length pc1), (27, .int .i64 t33), (28, .pointer (some ⟨b36, o37, none⟩)), (29, .bool (rdD p1 t33))] (by kernel_rfl) ?_
        refine RegI.done (by kernel_rfl) ?_
        refine RunsI.only [1, 2, 6, 7, 8, 9, 11, 12, 13, 26, 27, 28, 29] [(1, .slice pA1 p1.length pc1), (2, .pointer (some ⟨b21, 0, none⟩)), (6, .slice A85 ((t24 ++ ([t77] : List ByteArray)).length) c86), (7, .int .i64 t25), (8, .pointer (some ⟨b26, 0, none⟩)), (9, .int .i64 t33), (11, .pointer (some ⟨b54, 0, none⟩)), (12, .bool t51), (13, .bool t52), (26, .slice pA1 p1.length pc1), (27, .int .i64 t33), (28, .pointer (some ⟨b36, o37, none⟩)), (29, .bool (rdD p1 t33))] (by kernel_rfl) (by kernel_rfl) ?_
        exact hj96 (t24 ++ ([t77] : List ByteArray)) A85 c86 w84 h (h87.pick [0, 1, 2, 3, 5, 4] (by decide))
    · skip
      refine RegI.fix 25 false hc34 (by kernel_rfl) (by kernel_rfl) ?_
      refine RegI.pure 6 [1, 2, 6, 7, 8, 9, 10, 26, 27, 28, 29] [(1, .slice pA1 p1.length pc1), (2, .pointer (some ⟨b21, 0, none⟩)), (6, .slice A22 t24.length c23), (7, .int .i64 t25), (8, .pointer (some ⟨b26, 0, none⟩)), (9, .int .i64 t33), (10, .bool false), (26, undef), (27, undef), (28, undef), (29, undef)] (by kernel_rfl) ?_
      refine RegI.done (by kernel_rfl) ?_
      refine RunsI.go 1 [.c 25, .c 26, .blk 1, .c 47, .lp 20, .blk 0] (by kernel_rfl) ?_
      refine RunsI.region (by kernel_rfl) ?_
      refine RegI.op (by kernel_rfl) (OpE.loadBox 32 3 30 b26 0 (.agg #[.int .i64 t27, .int .u16 t28, .int .u8 t29, .int .i64 t30, .int .i64 t31, .int .i64 t32]) hH (by kernel_rfl) (by kernel_rfl) rfl (by kernel_rfl) ?_)
      refine RegI.pure 1 [1, 2, 6, 7, 8, 9, 26, 27, 28, 29, 32, 33] [(1, .slice pA1 p1.length pc1), (2, .pointer (some ⟨b21, 0, none⟩)), (6, .slice A22 t24.length c23), (7, .int .i64 t25), (8, .pointer (some ⟨b26, 0, none⟩)), (9, .int .i64 t33), (26, undef), (27, undef), (28, undef), (29, undef), (32, .agg #[.int .i64 t27, .int .u16 t28, .int .u8 t29, .int .i64 t30, .int .i64 t31, .int .i64 t32]), (33, .bool false)] (by kernel_rfl) ?_
      obtain ⟨⟨t112, t113, t114, t115, t116, t117, t118, t119⟩, hg111, h⟩ := of_bind h
      dsimp only at h
      refine RegI.op (by kernel_rfl) (OpE.call 34 (by kernel_rfl) 12 #[.agg #[.int .i64 t27, .int .u16 t28, .int .u8 t29, .int .i64 t30, .int .i64 t31, .int .i64 t32], .bool false] (by kernel_rfl) ((charabancref17_Tick_12_ok K _ w  t27 t28 t29 t30 t31 t32 false hH.old' hg111).mono ?_))
      rintro _ w108 ⟨rfl, hb109⟩
      refine ⟨_, rfl, ?_⟩
      have h110 := hH.call hb109
      refine RegI.pure 4 [1, 2, 6, 7, 8, 9, 26, 27, 28, 29, 35, 36, 37] [(1, .slice pA1 p1.length pc1), (2, .pointer (some ⟨b21, 0, none⟩)), (6, .slice A22 t24.length c23), (7, .int .i64 t25), (8, .pointer (some ⟨b26, 0, none⟩)), (9, .int .i64 t33), (26, undef), (27, undef), (28, undef), (29, undef), (35, .agg #[.int .i64 t112, .int .u16 t113, .int .u8 t114, .int .i64 t115, .int .i64 t116, .int .i64 t117]), (36, .bool t118), (37, .bool t119)] (by kernel_rfl) ?_
      refine RegI.op (by kernel_rfl) (OpE.box 11 30 [.int .i64 0, .int .u16 0, .int .u8 0, .int .i64 0, .int .i64 0, .int .i64 0] h110 (by kernel_rfl) (by kernel_rfl) ?_)
      intro w120 b121 h122 hb123 hn124
      refine RegI.op (by kernel_rfl) (OpE.storeBox 4 30 b121 0 (.agg #[.int .i64 t112, .int .u16 t113, .int .u8 t114, .int .i64 t115, .int .i64 t116, .int .i64 t117]) [.int .i64 t112, .int .u16 t113, .int .u8 t114, .int .i64 t115, .int .i64 t116, .int .i64 t117] h122 (by kernel_rfl) (by kernel_rfl) rfl (by kernel_rfl) (by kernel_rfl) (by kernel_rfl) ?_)
      intro w125 h126 hk127
      refine RegI.pure 2 [1, 2, 6, 7, 8, 9, 11, 12, 13, 26, 27, 28, 29] [(1, .slice pA1 p1.length pc1), (2, .pointer (some ⟨b21, 0, none⟩)), (6, .slice A22 t24.length c23), (7, .int .i64 t25), (8, .pointer (some ⟨b26, 0, none⟩)), (9, .int .i64 t33), (11, .pointer (some ⟨b121, 0, none⟩)), (12, .bool t118), (13, .bool t119), (26, undef), (27, undef), (28, undef), (29, undef)] (by kernel_rfl) ?_
      refine RegI.done (by kernel_rfl) ?_
      refine RunsI.go 2 [.c 28, .c 29, .c 32, .blk 1, .c 47, .lp 20, .blk 0] (by kernel_rfl) ?_
      refine RunsI.region (by kernel_rfl) ?_
      refine RegI.pure 1 [1, 2, 6, 7, 8, 9, 11, 12, 13, 26, 27, 28, 29, 38] [(1, .slice pA1 p1.length pc1), (2, .pointer (some ⟨b21, 0, none⟩)), (6, .slice A22 t24.length c23), (7, .int .i64 t25), (8, .pointer (some ⟨b26, 0, none⟩)), (9, .int .i64 t33), (11, .pointer (some ⟨b121, 0, none⟩)), (12, .bool t118), (13, .bool t119), (26, undef), (27, undef), (28, undef), (29, undef), (38, .pointer (some ⟨b121, 4, none⟩))] (by kernel_rfl) ?_
      refine RegI.op (by kernel_rfl) (OpE.loadBox 39 4 3 b121 4 (.int .i64 t116) h126 (by kernel_rfl) (by kernel_rfl) rfl (by kernel_rfl) ?_)
      refine RegI.pure 1 [1, 2, 6, 7, 8, 9, 11, 12, 13, 26, 27, 28, 29, 39, 40] [(1, .slice pA1 p1.length pc1), (2, .pointer (some ⟨b21, 0, none⟩)), (6, .slice A22 t24.length c23), (7, .int .i64 t25), (8, .pointer (some ⟨b26, 0, none⟩)), (9, .int .i64 t33), (11, .pointer (some ⟨b121, 0, none⟩)), (12, .bool t118), (13, .bool t119), (26, undef), (27, undef), (28, undef), (29, undef), (39, .int .i64 t116), (40, .pointer (some ⟨b26, 4, none⟩))] (by kernel_rfl) ?_
      refine RegI.op (by kernel_rfl) (OpE.loadBox 41 3 3 b26 4 (.int .i64 t31) h126 (by kernel_rfl) (by kernel_rfl) rfl (by kernel_rfl) ?_)
      refine RegI.pure 1 [1, 2, 6, 7, 8, 9, 11, 12, 13, 26, 27, 28, 29, 42] [(1, .slice pA1 p1.length pc1), (2, .pointer (some ⟨b21, 0, none⟩)), (6, .slice A22 t24.length c23), (7, .int .i64 t25), (8, .pointer (some ⟨b26, 0, none⟩)), (9, .int .i64 t33), (11, .pointer (some ⟨b121, 0, none⟩)), (12, .bool t118), (13, .bool t119), (26, undef), (27, undef), (28, undef), (29, undef), (42, .bool (t116 == t31))] (by kernel_rfl) ?_
      refine RegI.done (by kernel_rfl) ?_
      obtain ⟨j161, hJ162, h⟩ := of_let h
      have hj163 : ∀ (t158 : List ByteArray) (A156 : Option Addr) (c157 : Nat) (w160 : World), j161 t158 = some x → Holds M0 w0 w160 [sl Rp.bool (.slice pA1 p1.length pc1) p1, box b21 24 [.int .i64 p0_0, .int .u16 p0_1, .int .u8 p0_2, .int .i64 p0_3], own Rp.str 9 (.slice A156 t158.length c157) t158, box b26 30 [.int .i64 t27, .int .u16 t28, .int .u8 t29, .int .i64 t30, .int .i64 t31, .int .i64 t32], box b121 30 [.int .i64 t112, .int .u16 t113, .int .u8 t114, .int .i64 t115, .int .i64 t116, .int .i64 t117]] → RunsI F43 [.c 32, .blk 1, .c 47, .lp 20, .blk 0] [(1, .slice pA1 p1.length pc1), (2, .pointer (some ⟨b21, 0, none⟩)), (6, .slice A156 t158.length c157), (7, .int .i64 t25), (8, .pointer (some ⟨b26, 0, none⟩)), (9, .int .i64 t33), (11, .pointer (some ⟨b121, 0, none⟩)), (12, .bool t118), (13, .bool t119)] w160 R := by
        intro t158 A156 c157 w160 h h159
        rw [hJ162] at h
        clear hJ162
        dsimp only at h
        refine RunsI.go 2 [.c 34, .c 35, .c 38, .blk 1, .c 47, .lp 20, .blk 0] (by kernel_rfl) ?_
        refine RunsI.region (by kernel_rfl) ?_
        refine RegI.pure 1 [1, 2, 6, 7, 8, 9, 11, 13, 54] [(1, .slice pA1 p1.length pc1), (2, .pointer (some ⟨b21, 0, none⟩)), (6, .slice A156 t158.length c157), (7, .int .i64 t25), (8, .pointer (some ⟨b26, 0, none⟩)), (9, .int .i64 t33), (11, .pointer (some ⟨b121, 0, none⟩)), (13, .bool t119), (54, .bool t118)] (by kernel_rfl) ?_
        refine RegI.done (by kernel_rfl) ?_
        obtain ⟨j168, hJ169, h⟩ := of_let h
        have hj170 : ∀ (t165 : Int) (w167 : World), j168 t165 = some x → Holds M0 w0 w167 [sl Rp.bool (.slice pA1 p1.length pc1) p1, box b21 24 [.int .i64 p0_0, .int .u16 p0_1, .int .u8 p0_2, .int .i64 p0_3], own Rp.str 9 (.slice A156 t158.length c157) t158, box b26 30 [.int .i64 t27, .int .u16 t28, .int .u8 t29, .int .i64 t30, .int .i64 t31, .int .i64 t32], box b121 30 [.int .i64 t112, .int .u16 t113, .int .u8 t114, .int .i64 t115, .int .i64 t116, .int .i64 t117]] → RunsI F43 [.c 38, .blk 1, .c 47, .lp 20, .blk 0] [(1, .slice pA1 p1.length pc1), (2, .pointer (some ⟨b21, 0, none⟩)), (6, .slice A156 t158.length c157), (7, .int .i64 t165), (8, .pointer (some ⟨b26, 0, none⟩)), (9, .int .i64 t33), (11, .pointer (some ⟨b121, 0, none⟩)), (13, .bool t119)] w167 R := by
          intro t165 w167 h h166
          rw [hJ169] at h
          clear hJ169
          dsimp only at h
          refine RunsI.go 2 [.c 40, .c 41, .c 46, .blk 1, .c 47, .lp 20, .blk 0] (by kernel_rfl) ?_
          refine RunsI.region (by kernel_rfl) ?_
          refine RegI.pure 1 [1, 2, 6, 7, 8, 9, 11, 57] [(1, .slice pA1 p1.length pc1), (2, .pointer (some ⟨b21, 0, none⟩)), (6, .slice A156 t158.length c157), (7, .int .i64 t165), (8, .pointer (some ⟨b26, 0, none⟩)), (9, .int .i64 t33), (11, .pointer (some ⟨b121, 0, none⟩)), (57, .bool t119)] (by kernel_rfl) ?_
          refine RegI.done (by kernel_rfl) ?_
          rcases of_cond h with ⟨hc171, h⟩ | ⟨hc171, h⟩
          · skip
            refine RunsI.fix 57 true hc171 (by kernel_rfl) (by kernel_rfl) ?_
            refine RunsI.cond true 42 (by kernel_rfl) ?_
            refine RunsI.go 1 [.c 43, .c 44, .c 46, .blk 1, .c 47, .lp 20, .blk 0] (by kernel_rfl) ?_
            refine RunsI.region (by kernel_rfl) ?_
            refine RegI.pure 4 [4, 5] [(4, .slice A156 t158.length c157), (5, .int .i64 t165)] (by kernel_rfl) ?_
            refine RegI.done (by kernel_rfl) ?_
            refine RunsI.ret (.tuple #[.slice A156 t158.length c157, .int .i64 t165]) (by kernel_rfl) (by kernel_rfl) ?_
            exact hk0 t158 t165 A156 c157 w167 (Option.some.inj h).symm (h166.pick [2] (by decide))
          · skip
            refine RunsI.fix 57 false hc171 (by kernel_rfl) (by kernel_rfl) ?_
            refine RunsI.cond false 45 (by kernel_rfl) ?_
            refine RunsI.go 1 [.c 46, .blk 1, .c 47, .lp 20, .blk 0] (by kernel_rfl) ?_
            refine RunsI.region (by kernel_rfl) ?_
            refine RegI.op (by kernel_rfl) (OpE.loadBox 60 4 30 b121 0 (.agg #[.int .i64 t112, .int .u16 t113, .int .u8 t114, .int .i64 t115, .int .i64 t116, .int .i64 t117]) h166 (by kernel_rfl) (by kernel_rfl) rfl (by kernel_rfl) ?_)
            refine RegI.op (by kernel_rfl) (OpE.storeBox 3 30 b26 0 (.agg #[.int .i64 t112, .int .u16 t113, .int .u8 t114, .int .i64 t115, .int .i64 t116, .int .i64 t117]) [.int .i64 t112, .int .u16 t113, .int .u8 t114, .int .i64 t115, .int .i64 t116, .int .i64 t117] h166 (by kernel_rfl) (by kernel_rfl) rfl (by kernel_rfl) (by kernel_rfl) (by kernel_rfl) ?_)
            intro w172 h173 hk174
            refine RegI.done (by kernel_rfl) ?_
            refine RunsI.go 1 [.c 47, .lp 20, .blk 0] (by kernel_rfl) ?_
            refine RunsI.region (by kernel_rfl) ?_
            refine RegI.pure 3 [1, 2, 6, 7, 8, 9] [(1, .slice pA1 p1.length pc1), (2, .pointer (some ⟨b21, 0, none⟩)), (6, .slice A156 t158.length c157), (7, .int .i64 t165), (8, .pointer (some ⟨b26, 0, none⟩)), (9, .int .i64 (IntKind.wrap .i64 (t33 + 1)))] (by kernel_rfl) ?_
            refine RegI.done (by kernel_rfl) ?_
            refine RunsI.go 1 [.c 20, .lp 20, .blk 0] (by kernel_rfl) ?_
            refine RunsI.only [1, 2, 6, 7, 8, 9] [(1, .slice pA1 p1.length pc1), (2, .pointer (some ⟨b21, 0, none⟩)), (6, .slice A156 t158.length c157), (7, .int .i64 t165), (8, .pointer (some ⟨b26, 0, none⟩)), (9, .int .i64 (IntKind.wrap .i64 (t33 + 1)))] (by kernel_rfl) (by kernel_rfl) ?_
            exact ih t158 t165 t112 t113 t114 t115 t116 t117 (IntKind.wrap .i64 (t33 + 1)) A156 c157 w172 h (h173.pick [0, 1, 2, 3] (by decide))
        clear hJ169
        rcases of_cond h with ⟨hc164, h⟩ | ⟨hc164, h⟩
        · skip
          refine RunsI.fix 54 true hc164 (by kernel_rfl) (by kernel_rfl) ?_
          refine RunsI.cond true 36 (by kernel_rfl) ?_
          refine RunsI.region (by kernel_rfl) ?_
          refine RegI.pure 3 [1, 2, 6, 7, 8, 9, 11, 13] [(1, .slice pA1 p1.length pc1), (2, .pointer (some ⟨b21, 0, none⟩)), (6, .slice A156 t158.length c157), (7, .int .i64 (IntKind.wrap .i64 (t33 + 1))), (8, .pointer (some ⟨b26, 0, none⟩)), (9, .int .i64 t33), (11, .pointer (some ⟨b121, 0, none⟩)), (13, .bool t119)] (by kernel_rfl) ?_
          refine RegI.done (by kernel_rfl) ?_
          refine RunsI.only [1, 2, 6, 7, 8, 9, 11, 13] [(1, .slice pA1 p1.length pc1), (2, .pointer (some ⟨b21, 0, none⟩)), (6, .slice A156 t158.length c157), (7, .int .i64 (IntKind.wrap .i64 (t33 + 1))), (8, .pointer (some ⟨b26, 0, none⟩)), (9, .int .i64 t33), (11, .pointer (some ⟨b121, 0, none⟩)), (13, .bool t119)] (by kernel_rfl) (by kernel_rfl) ?_
          exact hj170 (IntKind.wrap .i64 (t33 + 1)) w160 h (h159.pick [0, 1, 2, 3, 4] (by decide))
        · skip
          refine RunsI.fix 54 false hc164 (by kernel_rfl) (by kernel_rfl) ?_
          refine RunsI.cond false 37 (by kernel_rfl) ?_
          refine RunsI.go 1 [.c 38, .blk 1, .c 47, .lp 20, .blk 0] (by kernel_rfl) ?_
          refine RunsI.only [1, 2, 6, 7, 8, 9, 11, 13] [(1, .slice pA1 p1.length pc1), (2, .pointer (some ⟨b21, 0, none⟩)), (6, .slice A156 t158.length c157), (7, .int .i64 t25), (8, .pointer (some ⟨b26, 0, none⟩)), (9, .int .i64 t33), (11, .pointer (some ⟨b121, 0, none⟩)), (13, .bool t119)] (by kernel_rfl) (by kernel_rfl) ?_
          exact hj170 t25 w160 h (h159.pick [0, 1, 2, 3, 4] (by decide))
      clear hJ162
      rcases of_cond h with ⟨hc128, h⟩ | ⟨hc128, h⟩
      · skip
        refine RunsI.fix 42 true hc128 (by kernel_rfl) (by kernel_rfl) ?_
        refine RunsI.cond true 30 (by kernel_rfl) ?_
        refine RunsI.region (by kernel_rfl) ?_
        refine RegI.pure 1 [1, 2, 7, 8, 9, 11, 12, 13, 26, 27, 28, 29, 43] [(1, .slice pA1 p1.length pc1), (2, .pointer (some ⟨b21, 0, none⟩)), (7, .int .i64 t25), (8, .pointer (some ⟨b26, 0, none⟩)), (9, .int .i64 t33), (11, .pointer (some ⟨b121, 0, none⟩)), (12, .bool t118), (13, .bool t119), (26, undef), (27, undef), (28, undef), (29, undef), (43, .slice A22 t24.length c23)] (by kernel_rfl) ?_
        refine RegI.op (by kernel_rfl) (OpE.lit 44 9 [.string (⟨#[84, 87]⟩ : ByteArray)] 1 h126 (by kernel_rfl) (by kernel_rfl) ?_)
        intro w129 b130 h131 hb132 hn133
        obtain ⟨hc134, h⟩ := of_cond0 h
        refine RegI.op (by kernel_rfl) (OpE.appendBox 45 2 5 42 9 16 ([(⟨#[84, 87]⟩ : ByteArray)] : List ByteArray) 0 h131 (by kernel_rfl) (by kernel_rfl) (by kernel_rfl) rfl rfl rfl (cells_str _ _ _) hc134 ?_)
        intro w135 A136 c137 h138 hk139
        refine RegI.pure 1 [1, 2, 6, 7, 8, 9, 11, 12, 13, 26, 27, 28, 29] [(1, .slice pA1 p1.length pc1), (2, .pointer (some ⟨b21, 0, none⟩)), (6, .slice A136 ((t24 ++ ([(⟨#[84, 87]⟩ : ByteArray)] : List ByteArray)).length) c137), (7, .int .i64 t25), (8, .pointer (some ⟨b26, 0, none⟩)), (9, .int .i64 t33), (11, .pointer (some ⟨b121, 0, none⟩)), (12, .bool t118), (13, .bool t119), (26, undef), (27, undef), (28, undef), (29, undef)] (by kernel_rfl) ?_
        refine RegI.done (by kernel_rfl) ?_
        refine RunsI.only [1, 2, 6, 7, 8, 9, 11, 12, 13] [(1, .slice pA1 p1.length pc1), (2, .pointer (some ⟨b21, 0, none⟩)), (6, .slice A136 ((t24 ++ ([(⟨#[84, 87]⟩ : ByteArray)] : List ByteArray)).length) c137), (7, .int .i64 t25), (8, .pointer (some ⟨b26, 0, none⟩)), (9, .int .i64 t33), (11, .pointer (some ⟨b121, 0, none⟩)), (12, .bool t118), (13, .bool t119)] (by kernel_rfl) (by kernel_rfl) ?_
        exact hj163 (t24 ++ ([(⟨#[84, 87]⟩ : ByteArray)] : List ByteArray)) A136 c137 w135 h (h138.pick [0, 1, 2, 3, 4] (by decide))
      · skip
        refine RunsI.fix 42 false hc128 (by kernel_rfl) (by kernel_rfl) ?_
        refine RunsI.cond false 31 (by kernel_rfl) ?_
        refine RunsI.region (by kernel_rfl) ?_
        refine RegI.pure 2 [1, 2, 7, 8, 9, 11, 12, 13, 26, 27, 28, 29, 46, 47] [(1, .slice pA1 p1.length pc1), (2, .pointer (some ⟨b21, 0, none⟩)), (7, .int .i64 t25), (8, .pointer (some ⟨b26, 0, none⟩)), (9, .int .i64 t33), (11, .pointer (some ⟨b121, 0, none⟩)), (12, .bool t118), (13, .bool t119), (26, undef), (27, undef), (28, undef), (29, undef), (46, .slice A22 t24.length c23), (47, .pointer (some ⟨b21, 0, none⟩))] (by kernel_rfl) ?_
        refine RegI.op (by kernel_rfl) (OpE.loadBox 48 1 3 b21 0 (.int .i64 p0_0) h126 (by kernel_rfl) (by kernel_rfl) rfl (by kernel_rfl) ?_)
        refine RegI.pure 1 [1, 2, 7, 8, 9, 11, 12, 13, 26, 27, 28, 29, 46, 48, 49] [(1, .slice pA1 p1.length pc1), (2, .pointer (some ⟨b21, 0, none⟩)), (7, .int .i64 t25), (8, .pointer (some ⟨b26, 0, none⟩)), (9, .int .i64 t33), (11, .pointer (some ⟨b121, 0, none⟩)), (12, .bool t118), (13, .bool t119), (26, undef), (27, undef), (28, undef), (29, undef), (46, .slice A22 t24.length c23), (48, .int .i64 p0_0), (49, .pointer (some ⟨b121, 4, none⟩))] (by kernel_rfl) ?_
        refine RegI.op (by kernel_rfl) (OpE.loadBox 50 4 3 b121 4 (.int .i64 t116) h126 (by kernel_rfl) (by kernel_rfl) rfl (by kernel_rfl) ?_)
        obtain ⟨t144, hg143, h⟩ := of_bind h
        refine RegI.op (by kernel_rfl) (OpE.call 51 (by kernel_rfl) 60 #[.int .i64 p0_0, .int .i64 t116] (by kernel_rfl) ((charabancref17_name_60_ok K _ w125  p0_0 t116 h126.old' hg143).mono ?_))
        rintro _ w140 ⟨rfl, hb141⟩
        refine ⟨_, rfl, ?_⟩
        have h142 := h126.call hb141
        refine RegI.op (by kernel_rfl) (OpE.lit 52 9 [.string t144] 1 h142 (by kernel_rfl) (by kernel_rfl) ?_)
        intro w145 b146 h147 hb148 hn149
        obtain ⟨hc150, h⟩ := of_cond0 h
        refine RegI.op (by kernel_rfl) (OpE.appendBox 53 2 5 42 9 16 ([t144] : List ByteArray) 0 h147 (by kernel_rfl) (by kernel_rfl) (by kernel_rfl) rfl rfl rfl (cells_str _ _ _) hc150 ?_)
        intro w151 A152 c153 h154 hk155
        refine RegI.pure 1 [1, 2, 6, 7, 8, 9, 11, 12, 13, 26, 27, 28, 29] [(1, .slice pA1 p1.length pc1), (2, .pointer (some ⟨b21, 0, none⟩)), (6, .slice A152 ((t24 ++ ([t144] : List ByteArray)).length) c153), (7, .int .i64 t25), (8, .pointer (some ⟨b26, 0, none⟩)), (9, .int .i64 t33), (11, .pointer (some ⟨b121, 0, none⟩)), (12, .bool t118), (13, .bool t119), (26, undef), (27, undef), (28, undef), (29, undef)] (by kernel_rfl) ?_
        refine RegI.done (by kernel_rfl) ?_
        refine RunsI.only [1, 2, 6, 7, 8, 9, 11, 12, 13] [(1, .slice pA1 p1.length pc1), (2, .pointer (some ⟨b21, 0, none⟩)), (6, .slice A152 ((t24 ++ ([t144] : List ByteArray)).length) c153), (7, .int .i64 t25), (8, .pointer (some ⟨b26, 0, none⟩)), (9, .int .i64 t33), (11, .pointer (some ⟨b121, 0, none⟩)), (12, .bool t118), (13, .bool t119)] (by kernel_rfl) (by kernel_rfl) ?_
        exact hj163 (t24 ++ ([t144] : List ByteArray)) A152 c153 w151 h (h154.pick [0, 1, 2, 3, 4] (by decide))
def charabancref17_walk_43.f (K : Nat) (p0_0 : Int) (p0_1 : Int) (p0_2 : Int) (p0_3 : Int) (p1 : List Bool) : Option ((List ByteArray) × Int) := (charabancref17_Check_15.f K p0_0 p0_1 p0_2 p0_3).bind fun t10 => cond (t10 != 0) (some (([] : List ByteArray), 0)) ((charabancref17_walk_43.l0 K p0_0 p0_1 p0_2 p0_3 p1 K ([] : List ByteArray) 0 p0_0 p0_1 p0_2 p0_3 0 0 0).bind (fun yx179 => some (yx179.1, yx179.2)))
set_option maxRecDepth 100000 in
theorem charabancref17_walk_43_ok (K : Nat) (M0 : Nat → Prop) (w0 : World) (pA1 : Option Addr) (pc1 : Nat) (p0_0 : Int) (p0_1 : Int) (p0_2 : Int) (p0_3 : Int) (p1 : List Bool) (ho : ∀ b, M0 b → b < w0.heap.size) (hs1 : Sl Rp.bool w0 M0 (.slice pA1 p1.length pc1) p1) {r : (List ByteArray) × Int} (h : charabancref17_walk_43.f K p0_0 p0_1 p0_2 p0_3 p1 = some r) :
    Calls Tryd.prog 43 #[.agg #[.int .i64 p0_0, .int .u16 p0_1, .int .u8 p0_2, .int .i64 p0_3], .slice pA1 p1.length pc1] w0 (charabancref17_walk_43.post M0 w0 r) := by
  unfold charabancref17_walk_43.f at h
  have h0 : Holds M0 w0 w0 [] := Holds.start ho
  have h01 := h0.addSl Rp.bool (.slice pA1 p1.length pc1) p1 (hs1.mono (fun _ _ hm => hm.elim id (fun hm => absurd hm (by simp [mines, sl]))))
  have h0 : Holds M0 w0 w0 [sl Rp.bool (.slice pA1 p1.length pc1) p1] := h01
  refine calls_of F43 rfl [.agg #[.int .i64 p0_0, .int .u16 p0_1, .int .u8 p0_2, .int .i64 p0_3], .slice pA1 p1.length pc1] (by kernel_rfl) ?_
  refine RunsI.go 1 [.c 1, .c 2] (by kernel_rfl) ?_
  refine RunsI.region (by kernel_rfl) ?_
  refine RegI.op (by kernel_rfl) (OpE.box 2 24 [.int .i64 p0_0, .int .u16 p0_1, .int .u8 p0_2, .int .i64 p0_3] h0 (by kernel_rfl) (by kernel_rfl) ?_)
  intro w1 b2 h3 hb4 hn5
  refine RegI.pure 2 [1, 2] [(1, .slice pA1 p1.length pc1), (2, .pointer (some ⟨b2, 0, none⟩))] (by kernel_rfl) ?_
  refine RegI.done (by kernel_rfl) ?_
  refine RunsI.go 2 [.c 4, .c 5, .c 10] (by kernel_rfl) ?_
  refine RunsI.region (by kernel_rfl) ?_
  refine RegI.op (by kernel_rfl) (OpE.loadBox 14 1 24 b2 0 (.agg #[.int .i64 p0_0, .int .u16 p0_1, .int .u8 p0_2, .int .i64 p0_3]) h3 (by kernel_rfl) (by kernel_rfl) rfl (by kernel_rfl) ?_)
  obtain ⟨t10, hg9, h⟩ := of_bind h
  refine RegI.op (by kernel_rfl) (OpE.call 15 (by kernel_rfl) 15 #[.agg #[.int .i64 p0_0, .int .u16 p0_1, .int .u8 p0_2, .int .i64 p0_3]] (by kernel_rfl) ((charabancref17_Check_15_ok K _ w1  p0_0 p0_1 p0_2 p0_3 h3.old' hg9).mono ?_))
  rintro _ w6 ⟨rfl, hb7⟩
  refine ⟨_, rfl, ?_⟩
  have h8 := h3.call hb7
  refine RegI.pure 1 [1, 2, 16] [(1, .slice pA1 p1.length pc1), (2, .pointer (some ⟨b2, 0, none⟩)), (16, .bool (t10 != 0))] (by kernel_rfl) ?_
  refine RegI.done (by kernel_rfl) ?_
  rcases of_cond h with ⟨hc11, h⟩ | ⟨hc11, h⟩
  · skip
    refine RunsI.fix 16 true hc11 (by kernel_rfl) (by kernel_rfl) ?_
    refine RunsI.cond true 6 (by kernel_rfl) ?_
    refine RunsI.go 1 [.c 7, .c 8, .c 10] (by kernel_rfl) ?_
    refine RunsI.region (by kernel_rfl) ?_
    refine RegI.pure 2 [4, 5] [(4, .slice none 0 0), (5, .int .i64 0)] (by kernel_rfl) ?_
    refine RegI.done (by kernel_rfl) ?_
    refine RunsI.ret (.tuple #[.slice none 0 0, .int .i64 0]) (by kernel_rfl) (by kernel_rfl) ?_
    have h187 := h8.addOwnNil Rp.str 9
    obtain rfl := Option.some.inj h
    exact ⟨none, 0, rfl, h187.pick [2] (by decide)⟩
  · skip
    refine RunsI.fix 16 false hc11 (by kernel_rfl) (by kernel_rfl) ?_
    refine RunsI.cond false 9 (by kernel_rfl) ?_
    refine RunsI.go 1 [.c 10] (by kernel_rfl) ?_
    refine RunsI.go 1 [.c 11, .c 12] (by kernel_rfl) ?_
    refine RunsI.region (by kernel_rfl) ?_
    refine RegI.pure 1 [1, 2, 6] [(1, .slice pA1 p1.length pc1), (2, .pointer (some ⟨b2, 0, none⟩)), (6, .slice none 0 0)] (by kernel_rfl) ?_
    refine RegI.done (by kernel_rfl) ?_
    refine RunsI.go 1 [.c 13, .c 14] (by kernel_rfl) ?_
    refine RunsI.region (by kernel_rfl) ?_
    refine RegI.pure 1 [1, 2, 6, 7] [(1, .slice pA1 p1.length pc1), (2, .pointer (some ⟨b2, 0, none⟩)), (6, .slice none 0 0), (7, .int .i64 0)] (by kernel_rfl) ?_
    refine RegI.done (by kernel_rfl) ?_
    refine RunsI.go 1 [.c 15, .c 16] (by kernel_rfl) ?_
    refine RunsI.region (by kernel_rfl) ?_
    refine RegI.op (by kernel_rfl) (OpE.loadBox 17 1 24 b2 0 (.agg #[.int .i64 p0_0, .int .u16 p0_1, .int .u8 p0_2, .int .i64 p0_3]) h8 (by kernel_rfl) (by kernel_rfl) rfl (by kernel_rfl) ?_)
    refine RegI.pure 1 [1, 2, 6, 7, 18] [(1, .slice pA1 p1.length pc1), (2, .pointer (some ⟨b2, 0, none⟩)), (6, .slice none 0 0), (7, .int .i64 0), (18, .agg #[.int .i64 p0_0, .int .u16 p0_1, .int .u8 p0_2, .int .i64 p0_3, .int .i64 0, .int .i64 0])] (by kernel_rfl) ?_
    refine RegI.op (by kernel_rfl) (OpE.box 8 30 [.int .i64 0, .int .u16 0, .int .u8 0, .int .i64 0, .int .i64 0, .int .i64 0] h8 (by kernel_rfl) (by kernel_rfl) ?_)
    intro w12 b13 h14 hb15 hn16
    refine RegI.op (by kernel_rfl) (OpE.storeBox 2 30 b13 0 (.agg #[.int .i64 p0_0, .int .u16 p0_1, .int .u8 p0_2, .int .i64 p0_3, .int .i64 0, .int .i64 0]) [.int .i64 p0_0, .int .u16 p0_1, .int .u8 p0_2, .int .i64 p0_3, .int .i64 0, .int .i64 0] h14 (by kernel_rfl) (by kernel_rfl) rfl (by kernel_rfl) (by kernel_rfl) (by kernel_rfl) ?_)
    intro w17 h18 hk19
    refine RegI.done (by kernel_rfl) ?_
    refine RunsI.go 1 [.c 17, .c 18] (by kernel_rfl) ?_
    refine RunsI.region (by kernel_rfl) ?_
    refine RegI.pure 1 [1, 2, 6, 7, 8, 9] [(1, .slice pA1 p1.length pc1), (2, .pointer (some ⟨b2, 0, none⟩)), (6, .slice none 0 0), (7, .int .i64 0), (8, .pointer (some ⟨b13, 0, none⟩)), (9, .int .i64 0)] (by kernel_rfl) ?_
    refine RegI.done (by kernel_rfl) ?_
    refine RunsI.go 2 [.c 20, .lp 20, .blk 0] (by kernel_rfl) ?_
    obtain ⟨x179, hx180, h⟩ := of_bind h
    have h20 := h18.addOwnNil Rp.str 9
    refine RunsI.only [1, 2, 6, 7, 8, 9] [(1, .slice pA1 p1.length pc1), (2, .pointer (some ⟨b2, 0, none⟩)), (6, .slice none (([] : List ByteArray).length) 0), (7, .int .i64 0), (8, .pointer (some ⟨b13, 0, none⟩)), (9, .int .i64 0)] (by kernel_rfl) (by kernel_rfl) ?_
    refine charabancref17_walk_43.l0_ok K M0 w0 pA1 pc1 p0_0 p0_1 p0_2 p0_3 p1 b2 b13 _ x179 ?_ K ([] : List ByteArray) 0 p0_0 p0_1 p0_2 p0_3 0 0 0 none 0 w17 hx180 (h20.pick [0, 1, 3, 2] (by decide))
    · intro t183 t184 A181 c182 w186 hq188 h185
      (try rw [hq188] at h)
      dsimp only at h
      obtain rfl := Option.some.inj h
      exact ⟨A181, c182, rfl, h185.pick [0] (by decide)⟩
end

/-! ### charabanc/charabancref17.Take (function 19) -/
section
def charabancref17_Take_19.post (M0 : Nat → Prop) (w0 : World) (r : Int × Int) : Ending → World → Prop := fun e w => e = .returned (.tuple #[.int .i64 r.1, .int .i64 r.2]) ∧ Below w0.heap.size w0 w
def charabancref17_Take_19.f (K : Nat) (p0_0 : Int) (p0_1 : Int) (p0_2 : Int) (p0_3 : Int) (p1 : List Bool) : Option (Int × Int) := (charabancref17_walk_43.f K p0_0 p0_1 p0_2 p0_3 p1).bind fun yt10 => some ((yt10.1.length : Int), yt10.2)
set_option maxRecDepth 100000 in
theorem charabancref17_Take_19_ok (K : Nat) (M0 : Nat → Prop) (w0 : World) (pA1 : Option Addr) (pc1 : Nat) (p0_0 : Int) (p0_1 : Int) (p0_2 : Int) (p0_3 : Int) (p1 : List Bool) (ho : ∀ b, M0 b → b < w0.heap.size) (hs1 : Sl Rp.bool w0 M0 (.slice pA1 p1.length pc1) p1) {r : Int × Int} (h : charabancref17_Take_19.f K p0_0 p0_1 p0_2 p0_3 p1 = some r) :
    Calls Tryd.prog 19 #[.agg #[.int .i64 p0_0, .int .u16 p0_1, .int .u8 p0_2, .int .i64 p0_3], .slice pA1 p1.length pc1] w0 (charabancref17_Take_19.post M0 w0 r) := by
  unfold charabancref17_Take_19.f at h
  have h0 : Holds M0 w0 w0 [] := Holds.start ho
  have h01 := h0.addSl Rp.bool (.slice pA1 p1.length pc1) p1 (hs1.mono (fun _ _ hm => hm.elim id (fun hm => absurd hm (by simp [mines, sl]))))
  have h0 : Holds M0 w0 w0 [sl Rp.bool (.slice pA1 p1.length pc1) p1] := h01
  refine calls_of F19 rfl [.agg #[.int .i64 p0_0, .int .u16 p0_1, .int .u8 p0_2, .int .i64 p0_3], .slice pA1 p1.length pc1] (by kernel_rfl) ?_
  refine RunsI.go 1 [.c 1, .c 2] (by kernel_rfl) ?_
  refine RunsI.region (by kernel_rfl) ?_
  refine RegI.op (by kernel_rfl) (OpE.box 2 24 [.int .i64 p0_0, .int .u16 p0_1, .int .u8 p0_2, .int .i64 p0_3] h0 (by kernel_rfl) (by kernel_rfl) ?_)
  intro w1 b2 h3 hb4 hn5
  refine RegI.pure 2 [1, 2] [(1, .slice pA1 p1.length pc1), (2, .pointer (some ⟨b2, 0, none⟩))] (by kernel_rfl) ?_
  refine RegI.done (by kernel_rfl) ?_
  refine RunsI.go 1 [.c 3, .c 4] (by kernel_rfl) ?_
  refine RunsI.region (by kernel_rfl) ?_
  refine RegI.op (by kernel_rfl) (OpE.loadBox 9 1 24 b2 0 (.agg #[.int .i64 p0_0, .int .u16 p0_1, .int .u8 p0_2, .int .i64 p0_3]) h3 (by kernel_rfl) (by kernel_rfl) rfl (by kernel_rfl) ?_)
  refine RegI.pure 1 [9, 10] [(9, .agg #[.int .i64 p0_0, .int .u16 p0_1, .int .u8 p0_2, .int .i64 p0_3]), (10, .slice pA1 p1.length pc1)] (by kernel_rfl) ?_
  obtain ⟨⟨t10, t14⟩, hg9, h⟩ := of_bind h
  dsimp only at h
  refine RegI.op (by kernel_rfl) (OpE.call 11 (by kernel_rfl) 43 #[.agg #[.int .i64 p0_0, .int .u16 p0_1, .int .u8 p0_2, .int .i64 p0_3], .slice pA1 p1.length pc1] (by kernel_rfl) ((charabancref17_walk_43_ok K _ w1  pA1 pc1 p0_0 p0_1 p0_2 p0_3 p1 h3.old' (h3.get 0 rfl) hg9).mono ?_))
  rintro _ w6 ⟨A11, c12, rfl, hr15⟩
  refine ⟨_, rfl, ?_⟩
  have hb7 := hr15.below
  have h8 := h3.join hr15
  refine RegI.pure 5 [6, 7] [(6, .slice A11 t10.length c12), (7, .int .i64 t14)] (by kernel_rfl) ?_
  refine RegI.done (by kernel_rfl) ?_
  refine RunsI.go 1 [.c 5, .c 6] (by kernel_rfl) ?_
  refine RunsI.region (by kernel_rfl) ?_
  refine RegI.pure 5 [4, 5] [(4, .int .i64 (t10.length : Int)), (5, .int .i64 t14)] (by kernel_rfl) ?_
  refine RegI.done (by kernel_rfl) ?_
  refine RunsI.ret (.tuple #[.int .i64 (t10.length : Int), .int .i64 t14]) (by kernel_rfl) (by kernel_rfl) ?_
  obtain rfl := Option.some.inj h
  exact ⟨rfl, h8.below⟩
end

/-! ### charabanc/charabancref17.Names (function 22) -/
section
def charabancref17_Names_22.post (M0 : Nat → Prop) (w0 : World) (r : (List ByteArray)) : Ending → World → Prop := fun e w => ∃ (A1 : Option Addr) (c1 : Nat), e = .returned (.slice A1 r.length c1) ∧ Holds M0 w0 w [own Rp.str 9 (.slice A1 r.length c1) r]
def charabancref17_Names_22.f (K : Nat) (p0_0 : Int) (p0_1 : Int) (p0_2 : Int) (p0_3 : Int) (p1 : List Bool) : Option (List ByteArray) := (charabancref17_walk_43.f K p0_0 p0_1 p0_2 p0_3 p1).bind fun yt10 => some yt10.1
set_option maxRecDepth 100000 in
theorem charabancref17_Names_22_ok (K : Nat) (M0 : Nat → Prop) (w0 : World) (pA1 : Option Addr) (pc1 : Nat) (p0_0 : Int) (p0_1 : Int) (p0_2 : Int) (p0_3 : Int) (p1 : List Bool) (ho : ∀ b, M0 b → b < w0.heap.size) (hs1 : Sl Rp.bool w0 M0 (.slice pA1 p1.length pc1) p1) {r : (List ByteArray)} (h : charabancref17_Names_22.f K p0_0 p0_1 p0_2 p0_3 p1 = some r) :
    Calls Tryd.prog 22 #[.agg #[.int .i64 p0_0, .int .u16 p0_1, .int .u8 p0_2, .int .i64 p0_3], .slice pA1 p1.length pc1] w0 (charabancref17_Names_22.post M0 w0 r) := by
  unfold charabancref17_Names_22.f at h
  have h0 : Holds M0 w0 w0 [] := Holds.start ho
  have h01 := h0.addSl Rp.bool (.slice pA1 p1.length pc1) p1 (hs1.mono (fun _ _ hm => hm.elim id (fun hm => absurd hm (by simp [mines, sl]))))
  have h0 : Holds M0 w0 w0 [sl Rp.bool (.slice pA1 p1.length pc1) p1] := h01
  refine calls_of F22 rfl [.agg #[.int .i64 p0_0, .int .u16 p0_1, .int .u8 p0_2, .int .i64 p0_3], .slice pA1 p1.length pc1] (by kernel_rfl) ?_
  refine RunsI.go 1 [.c 1, .c 2] (by kernel_rfl) ?_
  refine RunsI.region (by kernel_rfl) ?_
  refine RegI.op (by kernel_rfl) (OpE.box 2 24 [.int .i64 p0_0, .int .u16 p0_1, .int .u8 p0_2, .int .i64 p0_3] h0 (by kernel_rfl) (by kernel_rfl) ?_)
  intro w1 b2 h3 hb4 hn5
  refine RegI.pure 1 [1, 2] [(1, .slice pA1 p1.length pc1), (2, .pointer (some ⟨b2, 0, none⟩))] (by kernel_rfl) ?_
  refine RegI.done (by kernel_rfl) ?_
  refine RunsI.go 1 [.c 3, .c 4] (by kernel_rfl) ?_
  refine RunsI.region (by kernel_rfl) ?_
  refine RegI.op (by kernel_rfl) (OpE.loadBox 8 1 24 b2 0 (.agg #[.int .i64 p0_0, .int .u16 p0_1, .int .u8 p0_2, .int .i64 p0_3]) h3 (by kernel_rfl) (by kernel_rfl) rfl (by kernel_rfl) ?_)
  refine RegI.pure 1 [8, 9] [(8, .agg #[.int .i64 p0_0, .int .u16 p0_1, .int .u8 p0_2, .int .i64 p0_3]), (9, .slice pA1 p1.length pc1)] (by kernel_rfl) ?_
  obtain ⟨⟨t10, t14⟩, hg9, h⟩ := of_bind h
  dsimp only at h
  refine RegI.op (by kernel_rfl) (OpE.call 10 (by kernel_rfl) 43 #[.agg #[.int .i64 p0_0, .int .u16 p0_1, .int .u8 p0_2, .int .i64 p0_3], .slice pA1 p1.length pc1] (by kernel_rfl) ((charabancref17_walk_43_ok K _ w1  pA1 pc1 p0_0 p0_1 p0_2 p0_3 p1 h3.old' (h3.get 0 rfl) hg9).mono ?_))
  rintro _ w6 ⟨A11, c12, rfl, hr15⟩
  refine ⟨_, rfl, ?_⟩
  have hb7 := hr15.below
  have h8 := h3.join hr15
  refine RegI.pure 5 [5] [(5, .slice A11 t10.length c12)] (by kernel_rfl) ?_
  refine RegI.done (by kernel_rfl) ?_
  refine RunsI.go 1 [.c 5, .c 6] (by kernel_rfl) ?_
  refine RunsI.region (by kernel_rfl) ?_
  refine RegI.pure 2 [4] [(4, .slice A11 t10.length c12)] (by kernel_rfl) ?_
  refine RegI.done (by kernel_rfl) ?_
  refine RunsI.ret (.slice A11 t10.length c12) (by kernel_rfl) (by kernel_rfl) ?_
  obtain rfl := Option.some.inj h
  exact ⟨A11, c12, rfl, h8.pick [2] (by decide)⟩
end
end Go.Proofs.YtajnhlkkbhobiaaDoor.Cyc
