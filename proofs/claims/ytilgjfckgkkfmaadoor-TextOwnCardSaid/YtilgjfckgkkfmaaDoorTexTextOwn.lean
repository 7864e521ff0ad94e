/- The statement's function TextOwn as a plain Lean function; written by wip/eng.py. -/
import Derived.Test.YtilgjfckgkkfmaaDoorTex5
set_option linter.unusedVariables false
set_option linter.unusedSimpArgs false
set_option maxHeartbeats 4000000
namespace Go.Proofs.YtilgjfckgkkfmaaDoor.Tex
open Go.RowKit Go.Eng
noncomputable def B9 : Code := (Tryd.f9.body).getD .skip
noncomputable def F9 : Fun Tryd.prog := ⟨9, Tryd.f9, B9, 89, Tryd.func9, by kernel_rfl, by kernel_rfl, [], none⟩

/-! ### charabanc/charabanclaw09.TextOwn (function 9) -/
section
def charabanclaw09_TextOwn_9.post (M0 : Nat → Prop) (w0 : World) (r : Bool) : Ending → World → Prop := fun e w => e = .returned (.bool r) ∧ Below w0.heap.size w0 w
def charabanclaw09_TextOwn_9.l0 (K : Nat) (p0 : Int) (p1 : Int) (t35 : List ByteArray) (t36 : Int) (t38 : Int) (t39 : ByteArray) : Nat → Int → Option (Lp Unit Unit)
 | 0, _ => none
 | k + 1, t40 => cond (decide (t40 < (t35.length : Int))) (cond (inR t40 t35.length) (cond ((ByteArray.toList (rdD t35 t40)) == (ByteArray.toList t39)) (some (Lp.ret ())) (charabanclaw09_TextOwn_9.l0 K p0 p1 t35 t36 t38 t39 k (IntKind.wrap .i64 (t40 + 1)))) none) (some (Lp.go ()))
set_option maxRecDepth 100000 in
theorem charabanclaw09_TextOwn_9.l0_ok (K : Nat) (M0 : Nat → Prop) (w0 : World) (p0 : Int) (p1 : Int) (t35 : List ByteArray) (t36 : Int) (t38 : Int) (t39 : ByteArray) (A33 : Option Addr) (c34 : Nat) (b37 : Nat) (R : Ending → World → Prop) (x : Lp Unit Unit) (hk0 : ∀ (w1 : World), x = Lp.go () → Holds M0 w0 w1 [own Rp.str 9 (.slice A33 t35.length c34) t35, box b37 51 [.int .i64 0, .int .u8 t38, .int .u8 p0, .int .u16 p1, .int .i64 0, .int .i64 0], gl 0 (tab_0.flatMap en_0), gl 1 (tab_1.flatMap en_1), gl 2 (tab_2.flatMap en_2), gl 3 (tab_3.flatMap en_3), gl 4 (tab_4.flatMap en_4), gl 5 (tab_5.flatMap en_5), gl 6 (tab_6.flatMap en_6), gl 7 (tab_7.flatMap en_7), gl 8 (tab_8.flatMap en_8), gl 9 (tab_9.flatMap en_9), gl 10 (tab_10.flatMap en_10), gl 12 (tab_12.flatMap en_12), gl 15 (tab_15.flatMap en_15), gl 16 (tab_16.flatMap en_16)] → RunsI F9 [.c 66, .c 68, .blk 1, .c 104, .lp 19, .blk 0, .c 105] [(0, .int .u8 p0), (1, .int .u16 p1), (6, .slice A33 t35.length c34), (7, .int .i64 t36), (8, .pointer (some ⟨b37, 0, none⟩)), (10, .string t39)] w1 R) (hk1 : ∀ (w1 : World), x = Lp.ret () → Holds M0 w0 w1 [gl 0 (tab_0.flatMap en_0), gl 1 (tab_1.flatMap en_1), gl 2 (tab_2.flatMap en_2), gl 3 (tab_3.flatMap en_3), gl 4 (tab_4.flatMap en_4), gl 5 (tab_5.flatMap en_5), gl 6 (tab_6.flatMap en_6), gl 7 (tab_7.flatMap en_7), gl 8 (tab_8.flatMap en_8), gl 9 (tab_9.flatMap en_9), gl 10 (tab_10.flatMap en_10), gl 12 (tab_12.flatMap en_12), gl 15 (tab_15.flatMap en_15), gl 16 (tab_16.flatMap en_16)] → R (.returned (.bool false)) w1) :
  ∀ (k : Nat) (t40 : Int) (w : World), charabanclaw09_TextOwn_9.l0 K p0 p1 t35 t36 t38 t39 k t40 = some x → Holds M0 w0 w [own Rp.str 9 (.slice A33 t35.length c34) t35, box b37 51 [.int .i64 0, .int .u8 t38, .int .u8 p0, .int .u16 p1, .int .i64 0, .int .i64 0], gl 0 (tab_0.flatMap en_0), gl 1 (tab_1.flatMap en_1), gl 2 (tab_2.flatMap en_2), gl 3 (tab_3.flatMap en_3), gl 4 (tab_4.flatMap en_4), gl 5 (tab_5.flatMap en_5), gl 6 (tab_6.flatMap en_6), gl 7 (tab_7.flatMap en_7), gl 8 (tab_8.flatMap en_8), gl 9 (tab_9.flatMap en_9), gl 10 (tab_10.flatMap en_10), gl 12 (tab_12.flatMap en_12), gl 15 (tab_15.flatMap en_15), gl 16 (tab_16.flatMap en_16)] → RunsI F9 [.c 50, .lp 50, .blk 2, .c 66, .c 68, .blk 1, .c 104, .lp 19, .blk 0, .c 105] [(0, .int .u8 p0), (1, .int .u16 p1), (6, .slice A33 t35.length c34), (7, .int .i64 t36), (8, .pointer (some ⟨b37, 0, none⟩)), (10, .string t39), (11, .int .i64 t40)] w R := by
 intro k
 induction k with
 | zero => intro t40 w h hH; exact absurd h (by simp [charabanclaw09_TextOwn_9.l0])
 | succ k ih =>
  intro t40 w h hH
  rw [charabanclaw09_TextOwn_9.l0.eq_2] at h
  refine RunsI.g 1 [.c 51, .c 56, .lp 50, .blk 2, .c 66, .c 68, .blk 1, .c 104, .lp 19, .blk 0, .c 105] ?_
  refine RunsI.g 1 [.c 52, .c 53, .c 56, .lp 50, .blk 2, .c 66, .c 68, .blk 1, .c 104, .lp 19, .blk 0, .c 105] ?_
  refine RunsI.r ?_
  refine RegI.p 4 [(0, .int .u8 p0), (1, .int .u16 p1), (6, .slice A33 t35.length c34), (7, .int .i64 t36), (8, .pointer (some ⟨b37, 0, none⟩)), (10, .string t39), (11, .int .i64 t40), (37, .bool (decide (t40 < (t35.length : Int))))] ?_
  refine RegI.d ?_
  rcases of_cond h with ⟨hc41, h⟩ | ⟨hc41, h⟩
  ·skip
   refine RunsI.f 37 true hc41 ?_
   refine RunsI.b true 54 ?_
   refine RunsI.g 1 [.c 56, .lp 50, .blk 2, .c 66, .c 68, .blk 1, .c 104, .lp 19, .blk 0, .c 105] ?_
   refine RunsI.g 3 [.c 59, .c 60, .blk 3, .c 65, .lp 50, .blk 2, .c 66, .c 68, .blk 1, .c 104, .lp 19, .blk 0, .c 105] ?_
   refine RunsI.r ?_
   refine RegI.p 2 [(0, .int .u8 p0), (1, .int .u16 p1), (6, .slice A33 t35.length c34), (7, .int .i64 t36), (8, .pointer (some ⟨b37, 0, none⟩)), (10, .string t39), (11, .int .i64 t40), (40, .slice A33 t35.length c34), (41, .int .i64 t40)] ?_
   obtain ⟨hc42, h⟩ := of_cond0 h
   refine RegI.o (OpE.idxOwnA 42 0 55 9 t40 hH (by kernel_rfl) rfl (by kernel_rfl) (by kernel_rfl) hc42 ?_)
   refine RegI.o (OpE.loadOwnA 43 0 9 9 t40 0 (o := (Int.toNat t40) * 1 + 0) hH (by kernel_rfl) rfl (by kernel_rfl) (by kernel_rfl) hc42 (fun cs43 hk44 => ?_))
   obtain rfl := hk44
   refine ⟨.string (rdD t35 t40), by kernel_rfl, ?_⟩
   refine RegI.p 2 [(0, .int .u8 p0), (1, .int .u16 p1), (6, .slice A33 t35.length c34), (7, .int .i64 t36), (8, .pointer (some ⟨b37, 0, none⟩)), (10, .string t39), (11, .int .i64 t40), (45, .bool ((ByteArray.toList (rdD t35 t40)) == (ByteArray.toList t39)))] ?_
   refine RegI.d ?_
   rcases of_cond h with ⟨hc45, h⟩ | ⟨hc45, h⟩
   ·skip
    refine RunsI.f 45 true hc45 ?_
    refine RunsI.b true 61 ?_
    refine RunsI.g 1 [.c 62, .c 63, .blk 3, .c 65, .lp 50, .blk 2, .c 66, .c 68, .blk 1, .c 104, .lp 19, .blk 0, .c 105] ?_
    refine RunsI.r ?_
    refine RegI.p 1 [(4, .bool false)] ?_
    refine RegI.d ?_
    refine RunsI.t (.bool false) ?_
    exact hk1 w (Option.some.inj h).symm (hH.pick [2, 3, 4, 5, 6, 7, 8, 9, 10, 11, 12, 13, 14, 15] (by decide))
   ·skip
    refine RunsI.f 45 false hc45 ?_
    refine RunsI.b false 64 ?_
    refine RunsI.g 1 [.blk 3, .c 65, .lp 50, .blk 2, .c 66, .c 68, .blk 1, .c 104, .lp 19, .blk 0, .c 105] ?_
    refine RunsI.g 1 [.c 65, .lp 50, .blk 2, .c 66, .c 68, .blk 1, .c 104, .lp 19, .blk 0, .c 105] ?_
    refine RunsI.r ?_
    refine RegI.p 3 [(0, .int .u8 p0), (1, .int .u16 p1), (6, .slice A33 t35.length c34), (7, .int .i64 t36), (8, .pointer (some ⟨b37, 0, none⟩)), (10, .string t39), (11, .int .i64 (IntKind.wrap .i64 (t40 + 1)))] ?_
    refine RegI.d ?_
    refine RunsI.g 1 [.c 50, .lp 50, .blk 2, .c 66, .c 68, .blk 1, .c 104, .lp 19, .blk 0, .c 105] ?_
    refine RunsI.l [0, 1, 6, 7, 8, 10, 11] [(0, .int .u8 p0), (1, .int .u16 p1), (6, .slice A33 t35.length c34), (7, .int .i64 t36), (8, .pointer (some ⟨b37, 0, none⟩)), (10, .string t39), (11, .int .i64 (IntKind.wrap .i64 (t40 + 1)))] ?_
    exact ih (IntKind.wrap .i64 (t40 + 1)) w h (hH.pick [0, 1, 2, 3, 4, 5, 6, 7, 8, 9, 10, 11, 12, 13, 14, 15] (by decide))
  ·skip
   refine RunsI.f 37 false hc41 ?_
   refine RunsI.b false 55 ?_
   refine RunsI.g 1 [.c 66, .c 68, .blk 1, .c 104, .lp 19, .blk 0, .c 105] ?_
   refine RunsI.l [0, 1, 6, 7, 8, 10] [(0, .int .u8 p0), (1, .int .u16 p1), (6, .slice A33 t35.length c34), (7, .int .i64 t36), (8, .pointer (some ⟨b37, 0, none⟩)), (10, .string t39)] ?_
   exact hk0 w (Option.some.inj h).symm (hH.pick [0, 1, 2, 3, 4, 5, 6, 7, 8, 9, 10, 11, 12, 13, 14, 15] (by decide))
def charabanclaw09_TextOwn_9.l1 (K : Nat) (p0 : Int) (p1 : Int) (t90 : List ByteArray) (t91 : Int) (t92 : ByteArray) (t93 : ByteArray) : Nat → Int → Option (Lp Unit Unit)
 | 0, _ => none
 | k + 1, t94 => cond (decide (t94 < (t92.size : Int))) (cond (inR t94 t92.size) (cond (inR t94 t93.size) (Let (fun (t113 : Bool) => cond t113 (some (Lp.ret ())) (charabanclaw09_TextOwn_9.l1 K p0 p1 t90 t91 t92 t93 k (IntKind.wrap .i64 (t94 + 1)))) (fun j116 => cond ((btD t92 t94) != (btD t93 t94)) (cond ((btD t92 t94) != 120) (j116 true) (j116 ((btD t93 t94) != 121))) (j116 false))) none) none) (some (Lp.go ()))
set_option maxRecDepth 100000 in
theorem charabanclaw09_TextOwn_9.l1_ok (K : Nat) (M0 : Nat → Prop) (w0 : World) (p0 : Int) (p1 : Int) (t90 : List ByteArray) (t91 : Int) (t92 : ByteArray) (t93 : ByteArray) (A88 : Option Addr) (c89 : Nat) (R : Ending → World → Prop) (x : Lp Unit Unit) (hk0 : ∀ (w1 : World), x = Lp.go () → Holds M0 w0 w1 [own Rp.str 9 (.slice A88 t90.length c89) t90, gl 0 (tab_0.flatMap en_0), gl 1 (tab_1.flatMap en_1), gl 2 (tab_2.flatMap en_2), gl 3 (tab_3.flatMap en_3), gl 4 (tab_4.flatMap en_4), gl 5 (tab_5.flatMap en_5), gl 6 (tab_6.flatMap en_6), gl 7 (tab_7.flatMap en_7), gl 8 (tab_8.flatMap en_8), gl 9 (tab_9.flatMap en_9), gl 10 (tab_10.flatMap en_10), gl 12 (tab_12.flatMap en_12), gl 15 (tab_15.flatMap en_15), gl 16 (tab_16.flatMap en_16)] → RunsI F9 [.c 104, .lp 19, .blk 0, .c 105] [(0, .int .u8 p0), (1, .int .u16 p1), (6, .slice A88 t90.length c89), (7, .int .i64 t91)] w1 R) (hk1 : ∀ (w1 : World), x = Lp.ret () → Holds M0 w0 w1 [gl 0 (tab_0.flatMap en_0), gl 1 (tab_1.flatMap en_1), gl 2 (tab_2.flatMap en_2), gl 3 (tab_3.flatMap en_3), gl 4 (tab_4.flatMap en_4), gl 5 (tab_5.flatMap en_5), gl 6 (tab_6.flatMap en_6), gl 7 (tab_7.flatMap en_7), gl 8 (tab_8.flatMap en_8), gl 9 (tab_9.flatMap en_9), gl 10 (tab_10.flatMap en_10), gl 12 (tab_12.flatMap en_12), gl 15 (tab_15.flatMap en_15), gl 16 (tab_16.flatMap en_16)] → R (.returned (.bool false)) w1) :
  ∀ (k : Nat) (t94 : Int) (w : World), charabanclaw09_TextOwn_9.l1 K p0 p1 t90 t91 t92 t93 k t94 = some x → Holds M0 w0 w [own Rp.str 9 (.slice A88 t90.length c89) t90, gl 0 (tab_0.flatMap en_0), gl 1 (tab_1.flatMap en_1), gl 2 (tab_2.flatMap en_2), gl 3 (tab_3.flatMap en_3), gl 4 (tab_4.flatMap en_4), gl 5 (tab_5.flatMap en_5), gl 6 (tab_6.flatMap en_6), gl 7 (tab_7.flatMap en_7), gl 8 (tab_8.flatMap en_8), gl 9 (tab_9.flatMap en_9), gl 10 (tab_10.flatMap en_10), gl 12 (tab_12.flatMap en_12), gl 15 (tab_15.flatMap en_15), gl 16 (tab_16.flatMap en_16)] → RunsI F9 [.c 88, .lp 88, .blk 4, .blk 1, .c 104, .lp 19, .blk 0, .c 105] [(0, .int .u8 p0), (1, .int .u16 p1), (6, .slice A88 t90.length c89), (7, .int .i64 t91), (12, .string t92), (13, .string t93), (14, .int .i64 t94)] w R := by
 intro k
 induction k with
 | zero => intro t94 w h hH; exact absurd h (by simp [charabanclaw09_TextOwn_9.l1])
 | succ k ih =>
  intro t94 w h hH
  rw [charabanclaw09_TextOwn_9.l1.eq_2] at h
  refine RunsI.g 1 [.c 89, .c 94, .lp 88, .blk 4, .blk 1, .c 104, .lp 19, .blk 0, .c 105] ?_
  refine RunsI.g 1 [.c 90, .c 91, .c 94, .lp 88, .blk 4, .blk 1, .c 104, .lp 19, .blk 0, .c 105] ?_
  refine RunsI.r ?_
  refine RegI.p 4 [(0, .int .u8 p0), (1, .int .u16 p1), (6, .slice A88 t90.length c89), (7, .int .i64 t91), (12, .string t92), (13, .string t93), (14, .int .i64 t94), (64, .bool (decide (t94 < (t92.size : Int))))] ?_
  refine RegI.d ?_
  rcases of_cond h with ⟨hc95, h⟩ | ⟨hc95, h⟩
  ·skip
   refine RunsI.f 64 true hc95 ?_
   refine RunsI.b true 92 ?_
   refine RunsI.g 1 [.c 94, .lp 88, .blk 4, .blk 1, .c 104, .lp 19, .blk 0, .c 105] ?_
   refine RunsI.g 3 [.c 97, .c 98, .blk 5, .c 103, .lp 88, .blk 4, .blk 1, .c 104, .lp 19, .blk 0, .c 105] ?_
   refine RunsI.any 19 (by kernel_rfl) (by kernel_rfl) (by kernel_rfl) (Kp ([] : List Nat) (World.drew w)) ?_
   have h97 := hH.drew
   generalize World.drew w = w96 at h97 ⊢
   have hS98 := Kp.refl ([] : List Nat) w96
   refine AnyE.pure 0 67 (.string t92) (by kernel_rfl) hS98 (fun _ => by kernel_rfl) ?_
   refine AnyE.pure 1 68 (.int .i64 t94) (by kernel_rfl) hS98 (fun _ => by kernel_rfl) ?_
   obtain ⟨hc100, h⟩ := of_cond0 h
   refine AnyE.run 2 69 (.int .u8 (btD t92 t94)) (by kernel_rfl) hS98 (fun _ hk => run_strIdx (T0 := 9) (s := t92) (j := t94) (by kernel_rfl) (by kernel_rfl) hc100) ?_
   refine AnyE.pure 3 70 (.string t93) (by kernel_rfl) hS98 (fun _ => by kernel_rfl) ?_
   refine AnyE.pure 4 71 (.int .i64 t94) (by kernel_rfl) hS98 (fun _ => by kernel_rfl) ?_
   obtain ⟨hc101, h⟩ := of_cond0 h
   refine AnyE.run 5 72 (.int .u8 (btD t93 t94)) (by kernel_rfl) hS98 (fun _ hk => run_strIdx (T0 := 9) (s := t93) (j := t94) (by kernel_rfl) (by kernel_rfl) hc101) ?_
   refine AnyE.pure 6 73 (.bool ((btD t92 t94) != (btD t93 t94))) (by kernel_rfl) hS98 (fun _ => by kernel_rfl) ?_
   refine AnyE.pure 7 74 (.bool ((btD t92 t94) != (btD t93 t94))) (by kernel_rfl) hS98 (fun _ => by kernel_rfl) ?_
   obtain ⟨j116, hJ117, h⟩ := of_let h
   have hj118 : ∀ (t113 : Bool) (w115 : World), j116 t113 = some x → Holds M0 w0 w115 [own Rp.str 9 (.slice A88 t90.length c89) t90, gl 0 (tab_0.flatMap en_0), gl 1 (tab_1.flatMap en_1), gl 2 (tab_2.flatMap en_2), gl 3 (tab_3.flatMap en_3), gl 4 (tab_4.flatMap en_4), gl 5 (tab_5.flatMap en_5), gl 6 (tab_6.flatMap en_6), gl 7 (tab_7.flatMap en_7), gl 8 (tab_8.flatMap en_8), gl 9 (tab_9.flatMap en_9), gl 10 (tab_10.flatMap en_10), gl 12 (tab_12.flatMap en_12), gl 15 (tab_15.flatMap en_15), gl 16 (tab_16.flatMap en_16)] → RunsI F9 [.c 98, .blk 5, .c 103, .lp 88, .blk 4, .blk 1, .c 104, .lp 19, .blk 0, .c 105] [(0, .int .u8 p0), (1, .int .u16 p1), (6, .slice A88 t90.length c89), (7, .int .i64 t91), (12, .string t92), (13, .string t93), (14, .int .i64 t94), (85, .bool t113)] w115 R := by
    intro t113 w115 h h114
    rw [hJ117] at h
    clear hJ117
    dsimp only at h
    rcases of_cond h with ⟨hc119, h⟩ | ⟨hc119, h⟩
    ·skip
     refine RunsI.f 85 true hc119 ?_
     refine RunsI.b true 99 ?_
     refine RunsI.g 1 [.c 100, .c 101, .blk 5, .c 103, .lp 88, .blk 4, .blk 1, .c 104, .lp 19, .blk 0, .c 105] ?_
     refine RunsI.r ?_
     refine RegI.p 1 [(4, .bool false)] ?_
     refine RegI.d ?_
     refine RunsI.t (.bool false) ?_
     exact hk1 w115 (Option.some.inj h).symm (h114.pick [1, 2, 3, 4, 5, 6, 7, 8, 9, 10, 11, 12, 13, 14] (by decide))
    ·skip
     refine RunsI.f 85 false hc119 ?_
     refine RunsI.b false 102 ?_
     refine RunsI.g 1 [.blk 5, .c 103, .lp 88, .blk 4, .blk 1, .c 104, .lp 19, .blk 0, .c 105] ?_
     refine RunsI.g 1 [.c 103, .lp 88, .blk 4, .blk 1, .c 104, .lp 19, .blk 0, .c 105] ?_
     refine RunsI.r ?_
     refine RegI.p 3 [(0, .int .u8 p0), (1, .int .u16 p1), (6, .slice A88 t90.length c89), (7, .int .i64 t91), (12, .string t92), (13, .string t93), (14, .int .i64 (IntKind.wrap .i64 (t94 + 1)))] ?_
     refine RegI.d ?_
     refine RunsI.g 1 [.c 88, .lp 88, .blk 4, .blk 1, .c 104, .lp 19, .blk 0, .c 105] ?_
     refine RunsI.l [0, 1, 6, 7, 12, 13, 14] [(0, .int .u8 p0), (1, .int .u16 p1), (6, .slice A88 t90.length c89), (7, .int .i64 t91), (12, .string t92), (13, .string t93), (14, .int .i64 (IntKind.wrap .i64 (t94 + 1)))] ?_
     exact ih (IntKind.wrap .i64 (t94 + 1)) w115 h (h114.pick [0, 1, 2, 3, 4, 5, 6, 7, 8, 9, 10, 11, 12, 13, 14] (by decide))
   clear hJ117
   rcases of_cond h with ⟨hc102, h⟩ | ⟨hc102, h⟩
   ·skip
    refine AnyE.fix 74 true hc102 (by kernel_rfl) (by kernel_rfl) ?_
    refine AnyE.pure 8 75 (.string t92) (by kernel_rfl) hS98 (fun _ => by kernel_rfl) ?_
    refine AnyE.pure 9 76 (.int .i64 t94) (by kernel_rfl) hS98 (fun _ => by kernel_rfl) ?_
    refine AnyE.run 10 77 (.int .u8 (btD t92 t94)) (by kernel_rfl) hS98 (fun _ hk => run_strIdx (T0 := 9) (s := t92) (j := t94) (by kernel_rfl) (by kernel_rfl) hc100) ?_
    refine AnyE.pure 11 78 (.bool ((btD t92 t94) != 120)) (by kernel_rfl) hS98 (fun _ => by kernel_rfl) ?_
    refine AnyE.pure 12 79 (.bool ((btD t92 t94) != 120)) (by kernel_rfl) hS98 (fun _ => by kernel_rfl) ?_
    rcases of_cond h with ⟨hc103, h⟩ | ⟨hc103, h⟩
    ·skip
     refine AnyE.fix 79 true hc103 (by kernel_rfl) (by kernel_rfl) ?_
     refine AnyE.no 13 80 (by kernel_rfl) hS98 ?_
     refine AnyE.no 14 81 (by kernel_rfl) hS98 ?_
     refine AnyE.no 15 82 (by kernel_rfl) hS98 ?_
     refine AnyE.no 16 83 (by kernel_rfl) hS98 ?_
     refine AnyE.pure 17 84 (.bool true) (by kernel_rfl) hS98 (fun _ => by kernel_rfl) ?_
     refine AnyE.pure 18 85 (.bool true) (by kernel_rfl) hS98 (fun _ => by kernel_rfl) ?_
     refine AnyE.done (by kernel_rfl) (fun w104 hu105 => ?_)
     have h106 := h97.call hu105
     refine RunsI.l [0, 1, 6, 7, 12, 13, 14, 85] [(0, .int .u8 p0), (1, .int .u16 p1), (6, .slice A88 t90.length c89), (7, .int .i64 t91), (12, .string t92), (13, .string t93), (14, .int .i64 t94), (85, .bool true)] ?_
     refine RunsI.l [0, 1, 6, 7, 12, 13, 14, 85] [(0, .int .u8 p0), (1, .int .u16 p1), (6, .slice A88 t90.length c89), (7, .int .i64 t91), (12, .string t92), (13, .string t93), (14, .int .i64 t94), (85, .bool true)] ?_
     exact hj118 true w104 h (h106.pick [0, 1, 2, 3, 4, 5, 6, 7, 8, 9, 10, 11, 12, 13, 14] (by decide))
    ·skip
     refine AnyE.fix 79 false hc103 (by kernel_rfl) (by kernel_rfl) ?_
     refine AnyE.pure 13 80 (.string t93) (by kernel_rfl) hS98 (fun _ => by kernel_rfl) ?_
     refine AnyE.pure 14 81 (.int .i64 t94) (by kernel_rfl) hS98 (fun _ => by kernel_rfl) ?_
     refine AnyE.run 15 82 (.int .u8 (btD t93 t94)) (by kernel_rfl) hS98 (fun _ hk => run_strIdx (T0 := 9) (s := t93) (j := t94) (by kernel_rfl) (by kernel_rfl) hc101) ?_
     refine AnyE.pure 16 83 (.bool ((btD t93 t94) != 121)) (by kernel_rfl) hS98 (fun _ => by kernel_rfl) ?_
     refine AnyE.pure 17 84 (.bool ((btD t93 t94) != 121)) (by kernel_rfl) hS98 (fun _ => by kernel_rfl) ?_
     refine AnyE.pure 18 85 (.bool ((btD t93 t94) != 121)) (by kernel_rfl) hS98 (fun _ => by kernel_rfl) ?_
     refine AnyE.done (by kernel_rfl) (fun w107 hu108 => ?_)
     have h109 := h97.call hu108
     refine RunsI.l [0, 1, 6, 7, 12, 13, 14, 85] [(0, .int .u8 p0), (1, .int .u16 p1), (6, .slice A88 t90.length c89), (7, .int .i64 t91), (12, .string t92), (13, .string t93), (14, .int .i64 t94), (85, .bool ((btD t93 t94) != 121))] ?_
     refine RunsI.l [0, 1, 6, 7, 12, 13, 14, 85] [(0, .int .u8 p0), (1, .int .u16 p1), (6, .slice A88 t90.length c89), (7, .int .i64 t91), (12, .string t92), (13, .string t93), (14, .int .i64 t94), (85, .bool ((btD t93 t94) != 121))] ?_
     exact hj118 ((btD t93 t94) != 121) w107 h (h109.pick [0, 1, 2, 3, 4, 5, 6, 7, 8, 9, 10, 11, 12, 13, 14] (by decide))
   ·skip
    refine AnyE.fix 74 false hc102 (by kernel_rfl) (by kernel_rfl) ?_
    refine AnyE.no 8 75 (by kernel_rfl) hS98 ?_
    refine AnyE.no 9 76 (by kernel_rfl) hS98 ?_
    refine AnyE.no 10 77 (by kernel_rfl) hS98 ?_
    refine AnyE.no 11 78 (by kernel_rfl) hS98 ?_
    refine AnyE.no 12 79 (by kernel_rfl) hS98 ?_
    refine AnyE.no 13 80 (by kernel_rfl) hS98 ?_
    refine AnyE.no 14 81 (by kernel_rfl) hS98 ?_
    refine AnyE.no 15 82 (by kernel_rfl) hS98 ?_
    refine AnyE.no 16 83 (by kernel_rfl) hS98 ?_
    refine AnyE.no 17 84 (by kernel_rfl) hS98 ?_
    refine AnyE.pure 18 85 (.bool false) (by kernel_rfl) hS98 (fun _ => by kernel_rfl) ?_
    refine AnyE.done (by kernel_rfl) (fun w110 hu111 => ?_)
    have h112 := h97.call hu111
    refine RunsI.l [0, 1, 6, 7, 12, 13, 14, 85] [(0, .int .u8 p0), (1, .int .u16 p1), (6, .slice A88 t90.length c89), (7, .int .i64 t91), (12, .string t92), (13, .string t93), (14, .int .i64 t94), (85, .bool false)] ?_
    refine RunsI.l [0, 1, 6, 7, 12, 13, 14, 85] [(0, .int .u8 p0), (1, .int .u16 p1), (6, .slice A88 t90.length c89), (7, .int .i64 t91), (12, .string t92), (13, .string t93), (14, .int .i64 t94), (85, .bool false)] ?_
    exact hj118 false w110 h (h112.pick [0, 1, 2, 3, 4, 5, 6, 7, 8, 9, 10, 11, 12, 13, 14] (by decide))
  ·skip
   refine RunsI.f 64 false hc95 ?_
   refine RunsI.b false 93 ?_
   refine RunsI.g 2 [.c 104, .lp 19, .blk 0, .c 105] ?_
   refine RunsI.l [0, 1, 6, 7] [(0, .int .u8 p0), (1, .int .u16 p1), (6, .slice A88 t90.length c89), (7, .int .i64 t91)] ?_
   exact hk0 w (Option.some.inj h).symm (hH.pick [0, 1, 2, 3, 4, 5, 6, 7, 8, 9, 10, 11, 12, 13, 14] (by decide))
def charabanclaw09_TextOwn_9.l2 (K : Nat) (p0 : Int) (p1 : Int) : Nat → (List ByteArray) → Int → Option (Lp Unit (List ByteArray))
 | 0, _, _ => none
 | k + 1, t10, t11 => cond (decide (t11 < 256)) ((charabancref08_Bare_28.f K 0 (IntKind.wrap .u8 t11) p0 p1 0 0).bind fun t25 => (text_Show_26.f K 0 (IntKind.wrap .u8 t11) p0 p1 0 0).bind fun t30 => cond ((ByteArray.toList t30) == (ByteArray.toList (⟨#[]⟩ : ByteArray))) (some (Lp.ret ())) (Let (fun (t65 : (List ByteArray)) => (text_Show_26.f K 3 (IntKind.wrap .u8 t11) p0 p1 0 0).bind fun t78 => (text_Show_26.f K 4 (IntKind.wrap .u8 t11) p0 p1 0 0).bind fun t86 => cond ((t78.size : Int) != (t86.size : Int)) (some (Lp.ret ())) ((charabanclaw09_TextOwn_9.l1 K p0 p1 t65 t11 t78 t86 K 0).bind (fun x120 => Lp.elim x120 (fun _ => some (Lp.ret ())) (fun _ => charabanclaw09_TextOwn_9.l2 K p0 p1 k t65 (IntKind.wrap .i64 (t11 + 1)))))) (fun j68 => cond t25 ((charabanclaw09_TextOwn_9.l0 K p0 p1 t10 t11 (IntKind.wrap .u8 t11) t30 K 0).bind (fun x46 => Lp.elim x46 (fun _ => some (Lp.ret ())) (fun _ => cond (mayBe (t10.length + ([t30] : List ByteArray).length) 16) (j68 (t10 ++ ([t30] : List ByteArray))) none))) (j68 t10)))) (some (Lp.go t10))
set_option maxRecDepth 100000 in
theorem charabanclaw09_TextOwn_9.l2_ok (K : Nat) (M0 : Nat → Prop) (w0 : World) (p0 : Int) (p1 : Int) (R : Ending → World → Prop) (x : Lp Unit (List ByteArray)) (hk0 : ∀ (t128 : List ByteArray) (A126 : Option Addr) (c127 : Nat) (w1 : World), x = Lp.go t128 → Holds M0 w0 w1 [own Rp.str 9 (.slice A126 t128.length c127) t128, gl 0 (tab_0.flatMap en_0), gl 1 (tab_1.flatMap en_1), gl 2 (tab_2.flatMap en_2), gl 3 (tab_3.flatMap en_3), gl 4 (tab_4.flatMap en_4), gl 5 (tab_5.flatMap en_5), gl 6 (tab_6.flatMap en_6), gl 7 (tab_7.flatMap en_7), gl 8 (tab_8.flatMap en_8), gl 9 (tab_9.flatMap en_9), gl 10 (tab_10.flatMap en_10), gl 12 (tab_12.flatMap en_12), gl 15 (tab_15.flatMap en_15), gl 16 (tab_16.flatMap en_16)] → RunsI F9 [.c 105] [(6, .slice A126 t128.length c127)] w1 R) (hk1 : ∀ (w1 : World), x = Lp.ret () → Holds M0 w0 w1 [gl 0 (tab_0.flatMap en_0), gl 1 (tab_1.flatMap en_1), gl 2 (tab_2.flatMap en_2), gl 3 (tab_3.flatMap en_3), gl 4 (tab_4.flatMap en_4), gl 5 (tab_5.flatMap en_5), gl 6 (tab_6.flatMap en_6), gl 7 (tab_7.flatMap en_7), gl 8 (tab_8.flatMap en_8), gl 9 (tab_9.flatMap en_9), gl 10 (tab_10.flatMap en_10), gl 12 (tab_12.flatMap en_12), gl 15 (tab_15.flatMap en_15), gl 16 (tab_16.flatMap en_16)] → R (.returned (.bool false)) w1) :
  ∀ (k : Nat) (t10 : List ByteArray) (t11 : Int) (A8 : Option Addr) (c9 : Nat) (w : World), charabanclaw09_TextOwn_9.l2 K p0 p1 k t10 t11 = some x → Holds M0 w0 w [own Rp.str 9 (.slice A8 t10.length c9) t10, gl 0 (tab_0.flatMap en_0), gl 1 (tab_1.flatMap en_1), gl 2 (tab_2.flatMap en_2), gl 3 (tab_3.flatMap en_3), gl 4 (tab_4.flatMap en_4), gl 5 (tab_5.flatMap en_5), gl 6 (tab_6.flatMap en_6), gl 7 (tab_7.flatMap en_7), gl 8 (tab_8.flatMap en_8), gl 9 (tab_9.flatMap en_9), gl 10 (tab_10.flatMap en_10), gl 12 (tab_12.flatMap en_12), gl 15 (tab_15.flatMap en_15), gl 16 (tab_16.flatMap en_16)] → RunsI F9 [.c 19, .lp 19, .blk 0, .c 105] [(0, .int .u8 p0), (1, .int .u16 p1), (6, .slice A8 t10.length c9), (7, .int .i64 t11)] w R := by
 intro k
 induction k with
 | zero => intro t10 t11 A8 c9 w h hH; exact absurd h (by simp [charabanclaw09_TextOwn_9.l2])
 | succ k ih =>
  intro t10 t11 A8 c9 w h hH
  rw [charabanclaw09_TextOwn_9.l2.eq_2] at h
  refine RunsI.g 1 [.c 20, .c 25, .lp 19, .blk 0, .c 105] ?_
  refine RunsI.g 1 [.c 21, .c 22, .c 25, .lp 19, .blk 0, .c 105] ?_
  refine RunsI.r ?_
  refine RegI.p 2 [(0, .int .u8 p0), (1, .int .u16 p1), (6, .slice A8 t10.length c9), (7, .int .i64 t11), (19, .bool (decide (t11 < 256)))] ?_
  refine RegI.d ?_
  rcases of_cond h with ⟨hc12, h⟩ | ⟨hc12, h⟩
  ·skip
   refine RunsI.f 19 true hc12 ?_
   refine RunsI.b true 23 ?_
   refine RunsI.g 1 [.c 25, .lp 19, .blk 0, .c 105] ?_
   refine RunsI.g 3 [.c 28, .c 29, .blk 1, .c 104, .lp 19, .blk 0, .c 105] ?_
   refine RunsI.r ?_
   refine RegI.p 5 [(0, .int .u8 p0), (1, .int .u16 p1), (6, .slice A8 t10.length c9), (7, .int .i64 t11), (26, .agg #[.int .i64 0, .int .u8 (IntKind.wrap .u8 t11), .int .u8 p0, .int .u16 p1, .int .i64 0, .int .i64 0])] ?_
   refine RegI.o (OpE.box 8 51 [.int .i64 0, .int .u8 0, .int .u8 0, .int .u16 0, .int .i64 0, .int .i64 0] hH (by kernel_rfl) (by kernel_rfl) ?_)
   intro w13 b14 h15 hb16 hn17
   refine RegI.o (OpE.storeBox 15 51 b14 0 (.agg #[.int .i64 0, .int .u8 (IntKind.wrap .u8 t11), .int .u8 p0, .int .u16 p1, .int .i64 0, .int .i64 0]) [.int .i64 0, .int .u8 (IntKind.wrap .u8 t11), .int .u8 p0, .int .u16 p1, .int .i64 0, .int .i64 0] h15 (by kernel_rfl) (by kernel_rfl) rfl (by kernel_rfl) (by kernel_rfl) (by kernel_rfl) ?_)
   intro w18 h19 hk20
   refine RegI.d ?_
   refine RunsI.g 1 [.c 30, .c 31, .blk 1, .c 104, .lp 19, .blk 0, .c 105] ?_
   refine RunsI.r ?_
   refine RegI.o (OpE.loadBox 27 15 51 b14 0 (.agg #[.int .i64 0, .int .u8 (IntKind.wrap .u8 t11), .int .u8 p0, .int .u16 p1, .int .i64 0, .int .i64 0]) h19 (by kernel_rfl) (by kernel_rfl) rfl (by kernel_rfl) ?_)
   obtain ⟨t25, hg24, h⟩ := of_bind h
   refine RegI.o (OpE.call 28 (by kernel_rfl) 28 #[.agg #[.int .i64 0, .int .u8 (IntKind.wrap .u8 t11), .int .u8 p0, .int .u16 p1, .int .i64 0, .int .i64 0]] (by kernel_rfl) ((charabancref08_Bare_28_ok K _ w18  0 (IntKind.wrap .u8 t11) p0 p1 0 0 h19.old' hg24).mono ?_))
   rintro _ w21 ⟨rfl, hb22⟩
   refine ⟨_, rfl, ?_⟩
   have h23 := h19.call hb22
   refine RegI.p 1 [(0, .int .u8 p0), (1, .int .u16 p1), (6, .slice A8 t10.length c9), (7, .int .i64 t11), (8, .pointer (some ⟨b14, 0, none⟩)), (9, .bool t25)] ?_
   refine RegI.d ?_
   refine RunsI.g 1 [.c 32, .c 33, .blk 1, .c 104, .lp 19, .blk 0, .c 105] ?_
   refine RunsI.r ?_
   refine RegI.o (OpE.loadBox 29 15 51 b14 0 (.agg #[.int .i64 0, .int .u8 (IntKind.wrap .u8 t11), .int .u8 p0, .int .u16 p1, .int .i64 0, .int .i64 0]) h23 (by kernel_rfl) (by kernel_rfl) rfl (by kernel_rfl) ?_)
   obtain ⟨t30, hg29, h⟩ := of_bind h
   refine RegI.o (OpE.call 30 (by kernel_rfl) 26 #[.agg #[.int .i64 0, .int .u8 (IntKind.wrap .u8 t11), .int .u8 p0, .int .u16 p1, .int .i64 0, .int .i64 0]] (by kernel_rfl) ((text_Show_26_ok K _ w21  0 (IntKind.wrap .u8 t11) p0 p1 0 0 h23.old' (h23.get 1 rfl) (h23.get 2 rfl) (h23.get 3 rfl) (h23.get 4 rfl) (h23.get 5 rfl) (h23.get 6 rfl) (h23.get 7 rfl) (h23.get 8 rfl) (h23.get 9 rfl) (h23.get 10 rfl) (h23.get 11 rfl) (h23.get 12 rfl) (h23.get 13 rfl) (h23.get 14 rfl) hg29).mono ?_))
   rintro _ w26 ⟨rfl, hb27⟩
   refine ⟨_, rfl, ?_⟩
   have h28 := h23.call hb27
   refine RegI.p 1 [(0, .int .u8 p0), (1, .int .u16 p1), (6, .slice A8 t10.length c9), (7, .int .i64 t11), (8, .pointer (some ⟨b14, 0, none⟩)), (9, .bool t25), (10, .string t30)] ?_
   refine RegI.d ?_
   refine RunsI.g 2 [.c 35, .c 36, .c 41, .blk 1, .c 104, .lp 19, .blk 0, .c 105] ?_
   refine RunsI.r ?_
   refine RegI.p 2 [(0, .int .u8 p0), (1, .int .u16 p1), (6, .slice A8 t10.length c9), (7, .int .i64 t11), (8, .pointer (some ⟨b14, 0, none⟩)), (9, .bool t25), (10, .string t30), (32, .bool ((ByteArray.toList t30) == (ByteArray.toList (⟨#[]⟩ : ByteArray))))] ?_
   refine RegI.d ?_
   rcases of_cond h with ⟨hc31, h⟩ | ⟨hc31, h⟩
   ·skip
    refine RunsI.f 32 true hc31 ?_
    refine RunsI.b true 37 ?_
    refine RunsI.g 1 [.c 38, .c 39, .c 41, .blk 1, .c 104, .lp 19, .blk 0, .c 105] ?_
    refine RunsI.r ?_
    refine RegI.p 1 [(4, .bool false)] ?_
    refine RegI.d ?_
    refine RunsI.t (.bool false) ?_
    exact hk1 w26 (Option.some.inj h).symm (h28.pick [1, 2, 3, 4, 5, 6, 7, 8, 9, 10, 11, 12, 13, 14] (by decide))
   ·skip
    refine RunsI.f 32 false hc31 ?_
    refine RunsI.b false 40 ?_
    refine RunsI.g 1 [.c 41, .blk 1, .c 104, .lp 19, .blk 0, .c 105] ?_
    refine RunsI.g 2 [.c 43, .c 44, .c 68, .blk 1, .c 104, .lp 19, .blk 0, .c 105] ?_
    refine RunsI.r ?_
    refine RegI.p 1 [(0, .int .u8 p0), (1, .int .u16 p1), (6, .slice A8 t10.length c9), (7, .int .i64 t11), (8, .pointer (some ⟨b14, 0, none⟩)), (10, .string t30), (33, .bool t25)] ?_
    refine RegI.d ?_
    obtain ⟨j68, hJ69, h⟩ := of_let h
    have hj70 : ∀ (t65 : List ByteArray) (A63 : Option Addr) (c64 : Nat) (w67 : World), j68 t65 = some x → Holds M0 w0 w67 [own Rp.str 9 (.slice A63 t65.length c64) t65, box b14 51 [.int .i64 0, .int .u8 (IntKind.wrap .u8 t11), .int .u8 p0, .int .u16 p1, .int .i64 0, .int .i64 0], gl 0 (tab_0.flatMap en_0), gl 1 (tab_1.flatMap en_1), gl 2 (tab_2.flatMap en_2), gl 3 (tab_3.flatMap en_3), gl 4 (tab_4.flatMap en_4), gl 5 (tab_5.flatMap en_5), gl 6 (tab_6.flatMap en_6), gl 7 (tab_7.flatMap en_7), gl 8 (tab_8.flatMap en_8), gl 9 (tab_9.flatMap en_9), gl 10 (tab_10.flatMap en_10), gl 12 (tab_12.flatMap en_12), gl 15 (tab_15.flatMap en_15), gl 16 (tab_16.flatMap en_16)] → RunsI F9 [.c 68, .blk 1, .c 104, .lp 19, .blk 0, .c 105] [(0, .int .u8 p0), (1, .int .u16 p1), (6, .slice A63 t65.length c64), (7, .int .i64 t11), (8, .pointer (some ⟨b14, 0, none⟩))] w67 R := by
     intro t65 A63 c64 w67 h h66
     rw [hJ69] at h
     clear hJ69
     dsimp only at h
     refine RunsI.g 1 [.c 69, .c 70, .blk 1, .c 104, .lp 19, .blk 0, .c 105] ?_
     refine RunsI.r ?_
     refine RegI.p 1 [(0, .int .u8 p0), (1, .int .u16 p1), (6, .slice A63 t65.length c64), (7, .int .i64 t11), (8, .pointer (some ⟨b14, 0, none⟩)), (50, .pointer (some ⟨b14, 0, none⟩))] ?_
     refine RegI.o (OpE.storeBox 1 3 b14 0 (.int .i64 3) [.int .i64 3, .int .u8 (IntKind.wrap .u8 t11), .int .u8 p0, .int .u16 p1, .int .i64 0, .int .i64 0] h66 (by kernel_rfl) (by kernel_rfl) rfl (by kernel_rfl) (by kernel_rfl) (by kernel_rfl) ?_)
     intro w71 h72 hk73
     refine RegI.d ?_
     refine RunsI.g 1 [.c 71, .c 72, .blk 1, .c 104, .lp 19, .blk 0, .c 105] ?_
     refine RunsI.r ?_
     refine RegI.o (OpE.loadBox 51 1 51 b14 0 (.agg #[.int .i64 3, .int .u8 (IntKind.wrap .u8 t11), .int .u8 p0, .int .u16 p1, .int .i64 0, .int .i64 0]) h72 (by kernel_rfl) (by kernel_rfl) rfl (by kernel_rfl) ?_)
     obtain ⟨t78, hg77, h⟩ := of_bind h
     refine RegI.o (OpE.call 52 (by kernel_rfl) 26 #[.agg #[.int .i64 3, .int .u8 (IntKind.wrap .u8 t11), .int .u8 p0, .int .u16 p1, .int .i64 0, .int .i64 0]] (by kernel_rfl) ((text_Show_26_ok K _ w71  3 (IntKind.wrap .u8 t11) p0 p1 0 0 h72.old' (h72.get 2 rfl) (h72.get 3 rfl) (h72.get 4 rfl) (h72.get 5 rfl) (h72.get 6 rfl) (h72.get 7 rfl) (h72.get 8 rfl) (h72.get 9 rfl) (h72.get 10 rfl) (h72.get 11 rfl) (h72.get 12 rfl) (h72.get 13 rfl) (h72.get 14 rfl) (h72.get 15 rfl) hg77).mono ?_))
     rintro _ w74 ⟨rfl, hb75⟩
     refine ⟨_, rfl, ?_⟩
     have h76 := h72.call hb75
     refine RegI.p 1 [(0, .int .u8 p0), (1, .int .u16 p1), (6, .slice A63 t65.length c64), (7, .int .i64 t11), (8, .pointer (some ⟨b14, 0, none⟩)), (12, .string t78)] ?_
     refine RegI.d ?_
     refine RunsI.g 1 [.c 73, .c 74, .blk 1, .c 104, .lp 19, .blk 0, .c 105] ?_
     refine RunsI.r ?_
     refine RegI.p 1 [(0, .int .u8 p0), (1, .int .u16 p1), (6, .slice A63 t65.length c64), (7, .int .i64 t11), (8, .pointer (some ⟨b14, 0, none⟩)), (12, .string t78), (53, .pointer (some ⟨b14, 0, none⟩))] ?_
     refine RegI.o (OpE.storeBox 1 3 b14 0 (.int .i64 4) [.int .i64 4, .int .u8 (IntKind.wrap .u8 t11), .int .u8 p0, .int .u16 p1, .int .i64 0, .int .i64 0] h76 (by kernel_rfl) (by kernel_rfl) rfl (by kernel_rfl) (by kernel_rfl) (by kernel_rfl) ?_)
     intro w79 h80 hk81
     refine RegI.d ?_
     refine RunsI.g 1 [.c 75, .c 76, .blk 1, .c 104, .lp 19, .blk 0, .c 105] ?_
     refine RunsI.r ?_
     refine RegI.o (OpE.loadBox 54 1 51 b14 0 (.agg #[.int .i64 4, .int .u8 (IntKind.wrap .u8 t11), .int .u8 p0, .int .u16 p1, .int .i64 0, .int .i64 0]) h80 (by kernel_rfl) (by kernel_rfl) rfl (by kernel_rfl) ?_)
     obtain ⟨t86, hg85, h⟩ := of_bind h
     refine RegI.o (OpE.call 55 (by kernel_rfl) 26 #[.agg #[.int .i64 4, .int .u8 (IntKind.wrap .u8 t11), .int .u8 p0, .int .u16 p1, .int .i64 0, .int .i64 0]] (by kernel_rfl) ((text_Show_26_ok K _ w79  4 (IntKind.wrap .u8 t11) p0 p1 0 0 h80.old' (h80.get 2 rfl) (h80.get 3 rfl) (h80.get 4 rfl) (h80.get 5 rfl) (h80.get 6 rfl) (h80.get 7 rfl) (h80.get 8 rfl) (h80.get 9 rfl) (h80.get 10 rfl) (h80.get 11 rfl) (h80.get 12 rfl) (h80.get 13 rfl) (h80.get 14 rfl) (h80.get 15 rfl) hg85).mono ?_))
     rintro _ w82 ⟨rfl, hb83⟩
     refine ⟨_, rfl, ?_⟩
     have h84 := h80.call hb83
     refine RegI.p 1 [(0, .int .u8 p0), (1, .int .u16 p1), (6, .slice A63 t65.length c64), (7, .int .i64 t11), (12, .string t78), (13, .string t86)] ?_
     refine RegI.d ?_
     refine RunsI.g 2 [.c 78, .c 79, .c 84, .blk 1, .c 104, .lp 19, .blk 0, .c 105] ?_
     refine RunsI.r ?_
     refine RegI.p 5 [(0, .int .u8 p0), (1, .int .u16 p1), (6, .slice A63 t65.length c64), (7, .int .i64 t11), (12, .string t78), (13, .string t86), (60, .bool ((t78.size : Int) != (t86.size : Int)))] ?_
     refine RegI.d ?_
     rcases of_cond h with ⟨hc87, h⟩ | ⟨hc87, h⟩
     ·skip
      refine RunsI.f 60 true hc87 ?_
      refine RunsI.b true 80 ?_
      refine RunsI.g 1 [.c 81, .c 82, .c 84, .blk 1, .c 104, .lp 19, .blk 0, .c 105] ?_
      refine RunsI.r ?_
      refine RegI.p 1 [(4, .bool false)] ?_
      refine RegI.d ?_
      refine RunsI.t (.bool false) ?_
      exact hk1 w82 (Option.some.inj h).symm (h84.pick [2, 3, 4, 5, 6, 7, 8, 9, 10, 11, 12, 13, 14, 15] (by decide))
     ·skip
      refine RunsI.f 60 false hc87 ?_
      refine RunsI.b false 83 ?_
      refine RunsI.g 1 [.c 84, .blk 1, .c 104, .lp 19, .blk 0, .c 105] ?_
      refine RunsI.g 1 [.c 85, .c 86, .blk 1, .c 104, .lp 19, .blk 0, .c 105] ?_
      refine RunsI.r ?_
      refine RegI.p 1 [(0, .int .u8 p0), (1, .int .u16 p1), (6, .slice A63 t65.length c64), (7, .int .i64 t11), (12, .string t78), (13, .string t86), (14, .int .i64 0)] ?_
      refine RegI.d ?_
      refine RunsI.g 2 [.c 88, .lp 88, .blk 4, .blk 1, .c 104, .lp 19, .blk 0, .c 105] ?_
      obtain ⟨x120, hx121, h⟩ := of_bind h
      refine RunsI.l [0, 1, 6, 7, 12, 13, 14] [(0, .int .u8 p0), (1, .int .u16 p1), (6, .slice A63 t65.length c64), (7, .int .i64 t11), (12, .string t78), (13, .string t86), (14, .int .i64 0)] ?_
      refine charabanclaw09_TextOwn_9.l1_ok K M0 w0 p0 p1 t65 t11 t78 t86 A63 c64 _ x120 ?_ ?_ K 0 w82 hx121 (h84.pick [0, 2, 3, 4, 5, 6, 7, 8, 9, 10, 11, 12, 13, 14, 15] (by decide))
      ·intro w123 hq138 h122
       (try rw [hq138] at h)
       dsimp only [Lp.elim] at h
       refine RunsI.r ?_
       refine RegI.p 3 [(0, .int .u8 p0), (1, .int .u16 p1), (6, .slice A63 t65.length c64), (7, .int .i64 (IntKind.wrap .i64 (t11 + 1)))] ?_
       refine RegI.d ?_
       refine RunsI.g 1 [.c 19, .lp 19, .blk 0, .c 105] ?_
       refine RunsI.l [0, 1, 6, 7] [(0, .int .u8 p0), (1, .int .u16 p1), (6, .slice A63 t65.length c64), (7, .int .i64 (IntKind.wrap .i64 (t11 + 1)))] ?_
       exact ih t65 (IntKind.wrap .i64 (t11 + 1)) A63 c64 w123 h (h122.pick [0, 1, 2, 3, 4, 5, 6, 7, 8, 9, 10, 11, 12, 13, 14] (by decide))
      ·intro w125 hq139 h124
       (try rw [hq139] at h)
       dsimp only [Lp.elim] at h
       exact hk1 w125 (Option.some.inj h).symm (h124.pick [0, 1, 2, 3, 4, 5, 6, 7, 8, 9, 10, 11, 12, 13] (by decide))
    clear hJ69
    rcases of_cond h with ⟨hc32, h⟩ | ⟨hc32, h⟩
    ·skip
     refine RunsI.f 33 true hc32 ?_
     refine RunsI.b true 45 ?_
     refine RunsI.g 2 [.c 47, .c 48, .c 66, .c 68, .blk 1, .c 104, .lp 19, .blk 0, .c 105] ?_
     refine RunsI.r ?_
     refine RegI.p 1 [(0, .int .u8 p0), (1, .int .u16 p1), (6, .slice A8 t10.length c9), (7, .int .i64 t11), (8, .pointer (some ⟨b14, 0, none⟩)), (10, .string t30), (11, .int .i64 0)] ?_
     refine RegI.d ?_
     refine RunsI.g 2 [.c 50, .lp 50, .blk 2, .c 66, .c 68, .blk 1, .c 104, .lp 19, .blk 0, .c 105] ?_
     obtain ⟨x46, hx47, h⟩ := of_bind h
     refine RunsI.l [0, 1, 6, 7, 8, 10, 11] [(0, .int .u8 p0), (1, .int .u16 p1), (6, .slice A8 t10.length c9), (7, .int .i64 t11), (8, .pointer (some ⟨b14, 0, none⟩)), (10, .string t30), (11, .int .i64 0)] ?_
     refine charabanclaw09_TextOwn_9.l0_ok K M0 w0 p0 p1 t10 t11 (IntKind.wrap .u8 t11) t30 A8 c9 b14 _ x46 ?_ ?_ K 0 w26 hx47 (h28.pick [0, 15, 1, 2, 3, 4, 5, 6, 7, 8, 9, 10, 11, 12, 13, 14] (by decide))
     ·intro w49 hq140 h48
      (try rw [hq140] at h)
      dsimp only [Lp.elim] at h
      refine RunsI.r ?_
      refine RegI.p 2 [(0, .int .u8 p0), (1, .int .u16 p1), (7, .int .i64 t11), (8, .pointer (some ⟨b14, 0, none⟩)), (46, .slice A8 t10.length c9), (47, .string t30)] ?_
      refine RegI.o (OpE.lit 48 9 [.string t30] 1 h48 (by kernel_rfl) (by kernel_rfl) ?_)
      intro w52 b53 h54 hb55 hn56
      obtain ⟨hc57, h⟩ := of_cond0 h
      refine RegI.o (OpE.appendBox 49 0 16 55 9 16 ([t30] : List ByteArray) 0 h54 (by kernel_rfl) (by kernel_rfl) (by kernel_rfl) rfl rfl rfl (cells_str _ _ _) hc57 ?_)
      intro w58 A59 c60 h61 hk62
      refine RegI.p 1 [(0, .int .u8 p0), (1, .int .u16 p1), (6, .slice A59 ((t10 ++ ([t30] : List ByteArray)).length) c60), (7, .int .i64 t11), (8, .pointer (some ⟨b14, 0, none⟩))] ?_
      refine RegI.d ?_
      refine RunsI.l [0, 1, 6, 7, 8] [(0, .int .u8 p0), (1, .int .u16 p1), (6, .slice A59 ((t10 ++ ([t30] : List ByteArray)).length) c60), (7, .int .i64 t11), (8, .pointer (some ⟨b14, 0, none⟩))] ?_
      exact hj70 (t10 ++ ([t30] : List ByteArray)) A59 c60 w58 h (h61.pick [0, 1, 2, 3, 4, 5, 6, 7, 8, 9, 10, 11, 12, 13, 14, 15] (by decide))
     ·intro w51 hq141 h50
      (try rw [hq141] at h)
      dsimp only [Lp.elim] at h
      exact hk1 w51 (Option.some.inj h).symm (h50.pick [0, 1, 2, 3, 4, 5, 6, 7, 8, 9, 10, 11, 12, 13] (by decide))
    ·skip
     refine RunsI.f 33 false hc32 ?_
     refine RunsI.b false 67 ?_
     refine RunsI.g 1 [.c 68, .blk 1, .c 104, .lp 19, .blk 0, .c 105] ?_
     refine RunsI.l [0, 1, 6, 7, 8] [(0, .int .u8 p0), (1, .int .u16 p1), (6, .slice A8 t10.length c9), (7, .int .i64 t11), (8, .pointer (some ⟨b14, 0, none⟩))] ?_
     exact hj70 t10 A8 c9 w26 h (h28.pick [0, 15, 1, 2, 3, 4, 5, 6, 7, 8, 9, 10, 11, 12, 13, 14] (by decide))
  ·skip
   refine RunsI.f 19 false hc12 ?_
   refine RunsI.b false 24 ?_
   refine RunsI.g 1 [.c 105] ?_
   refine RunsI.l [6] [(6, .slice A8 t10.length c9)] ?_
   exact hk0 t10 A8 c9 w (Option.some.inj h).symm (hH.pick [0, 1, 2, 3, 4, 5, 6, 7, 8, 9, 10, 11, 12, 13, 14] (by decide))
def charabanclaw09_TextOwn_9.f (K : Nat) (p0 : Int) (p1 : Int) : Option Bool := (charabanclaw09_awake_25.f K).bind fun t5 => cond (!t5) (some false) ((charabanclaw09_TextOwn_9.l2 K p0 p1 K ([] : List ByteArray) 0).bind (fun x129 => Lp.elim x129 (fun _ => some false) (fun t133 => some ((t133.length : Int) == 252))))
set_option maxRecDepth 100000 in
theorem charabanclaw09_TextOwn_9_ok (K : Nat) (M0 : Nat → Prop) (w0 : World) (p0 : Int) (p1 : Int) (ho : ∀ b, M0 b → b < w0.heap.size) (hG0 : (gl 0 (tab_0.flatMap en_0)).ok w0 M0) (hG1 : (gl 1 (tab_1.flatMap en_1)).ok w0 M0) (hG2 : (gl 2 (tab_2.flatMap en_2)).ok w0 M0) (hG3 : (gl 3 (tab_3.flatMap en_3)).ok w0 M0) (hG4 : (gl 4 (tab_4.flatMap en_4)).ok w0 M0) (hG5 : (gl 5 (tab_5.flatMap en_5)).ok w0 M0) (hG6 : (gl 6 (tab_6.flatMap en_6)).ok w0 M0) (hG7 : (gl 7 (tab_7.flatMap en_7)).ok w0 M0) (hG8 : (gl 8 (tab_8.flatMap en_8)).ok w0 M0) (hG9 : (gl 9 (tab_9.flatMap en_9)).ok w0 M0) (hG10 : (gl 10 (tab_10.flatMap en_10)).ok w0 M0) (hG12 : (gl 12 (tab_12.flatMap en_12)).ok w0 M0) (hG15 : (gl 15 (tab_15.flatMap en_15)).ok w0 M0) (hG16 : (gl 16 (tab_16.flatMap en_16)).ok w0 M0) {r : Bool} (h : charabanclaw09_TextOwn_9.f K p0 p1 = some r) :
  Calls Tryd.prog 9 #[.int .u8 p0, .int .u16 p1] w0 (charabanclaw09_TextOwn_9.post M0 w0 r) := by
 unfold charabanclaw09_TextOwn_9.f at h
 have h0 : Holds M0 w0 w0 [] := Holds.start ho
 have h0g0 := h0.add (gl 0 (tab_0.flatMap en_0)) rfl ⟨hG0.1, fun hm => hG0.2.1 (hm.elim id (fun hm => absurd hm (by simp [mines, sl, gl]))), hG0.2.2⟩
 have h0g1 := h0g0.add (gl 1 (tab_1.flatMap en_1)) rfl ⟨hG1.1, fun hm => hG1.2.1 (hm.elim id (fun hm => absurd hm (by simp [mines, sl, gl]))), hG1.2.2⟩
 have h0g2 := h0g1.add (gl 2 (tab_2.flatMap en_2)) rfl ⟨hG2.1, fun hm => hG2.2.1 (hm.elim id (fun hm => absurd hm (by simp [mines, sl, gl]))), hG2.2.2⟩
 have h0g3 := h0g2.add (gl 3 (tab_3.flatMap en_3)) rfl ⟨hG3.1, fun hm => hG3.2.1 (hm.elim id (fun hm => absurd hm (by simp [mines, sl, gl]))), hG3.2.2⟩
 have h0g4 := h0g3.add (gl 4 (tab_4.flatMap en_4)) rfl ⟨hG4.1, fun hm => hG4.2.1 (hm.elim id (fun hm => absurd hm (by simp [mines, sl, gl]))), hG4.2.2⟩
 have h0g5 := h0g4.add (gl 5 (tab_5.flatMap en_5)) rfl ⟨hG5.1, fun hm => hG5.2.1 (hm.elim id (fun hm => absurd hm (by simp [mines, sl, gl]))), hG5.2.2⟩
 have h0g6 := h0g5.add (gl 6 (tab_6.flatMap en_6)) rfl ⟨hG6.1, fun hm => hG6.2.1 (hm.elim id (fun hm => absurd hm (by simp [mines, sl, gl]))), hG6.2.2⟩
 have h0g7 := h0g6.add (gl 7 (tab_7.flatMap en_7)) rfl ⟨hG7.1, fun hm => hG7.2.1 (hm.elim id (fun hm => absurd hm (by simp [mines, sl, gl]))), hG7.2.2⟩
 have h0g8 := h0g7.add (gl 8 (tab_8.flatMap en_8)) rfl ⟨hG8.1, fun hm => hG8.2.1 (hm.elim id (fun hm => absurd hm (by simp [mines, sl, gl]))), hG8.2.2⟩
 have h0g9 := h0g8.add (gl 9 (tab_9.flatMap en_9)) rfl ⟨hG9.1, fun hm => hG9.2.1 (hm.elim id (fun hm => absurd hm (by simp [mines, sl, gl]))), hG9.2.2⟩
 have h0g10 := h0g9.add (gl 10 (tab_10.flatMap en_10)) rfl ⟨hG10.1, fun hm => hG10.2.1 (hm.elim id (fun hm => absurd hm (by simp [mines, sl, gl]))), hG10.2.2⟩
 have h0g12 := h0g10.add (gl 12 (tab_12.flatMap en_12)) rfl ⟨hG12.1, fun hm => hG12.2.1 (hm.elim id (fun hm => absurd hm (by simp [mines, sl, gl]))), hG12.2.2⟩
 have h0g15 := h0g12.add (gl 15 (tab_15.flatMap en_15)) rfl ⟨hG15.1, fun hm => hG15.2.1 (hm.elim id (fun hm => absurd hm (by simp [mines, sl, gl]))), hG15.2.2⟩
 have h0g16 := h0g15.add (gl 16 (tab_16.flatMap en_16)) rfl ⟨hG16.1, fun hm => hG16.2.1 (hm.elim id (fun hm => absurd hm (by simp [mines, sl, gl]))), hG16.2.2⟩
 have h0 : Holds M0 w0 w0 [gl 0 (tab_0.flatMap en_0), gl 1 (tab_1.flatMap en_1), gl 2 (tab_2.flatMap en_2), gl 3 (tab_3.flatMap en_3), gl 4 (tab_4.flatMap en_4), gl 5 (tab_5.flatMap en_5), gl 6 (tab_6.flatMap en_6), gl 7 (tab_7.flatMap en_7), gl 8 (tab_8.flatMap en_8), gl 9 (tab_9.flatMap en_9), gl 10 (tab_10.flatMap en_10), gl 12 (tab_12.flatMap en_12), gl 15 (tab_15.flatMap en_15), gl 16 (tab_16.flatMap en_16)] := h0g16
 refine calls_of F9 rfl [.int .u8 p0, .int .u16 p1] (by kernel_rfl) ?_
 refine RunsI.g 1 [.c 1, .c 2] ?_
 refine RunsI.r ?_
 refine RegI.p 1 [(0, .int .u8 p0), (1, .int .u16 p1)] ?_
 refine RegI.d ?_
 refine RunsI.g 1 [.c 3, .c 4] ?_
 refine RunsI.r ?_
 obtain ⟨t5, hg4, h⟩ := of_bind h
 refine RegI.o (OpE.call 15 (by kernel_rfl) 25 #[] (by kernel_rfl) ((charabanclaw09_awake_25_ok K _ w0  h0.old' (h0.get 0 rfl) (h0.get 1 rfl) (h0.get 2 rfl) (h0.get 3 rfl) (h0.get 4 rfl) (h0.get 5 rfl) (h0.get 6 rfl) (h0.get 7 rfl) (h0.get 8 rfl) (h0.get 9 rfl) (h0.get 10 rfl) (h0.get 11 rfl) (h0.get 12 rfl) (h0.get 13 rfl) hg4).mono ?_))
 rintro _ w1 ⟨rfl, hb2⟩
 refine ⟨_, rfl, ?_⟩
 have h3 := h0.call hb2
 refine RegI.p 1 [(0, .int .u8 p0), (1, .int .u16 p1), (5, .bool t5)] ?_
 refine RegI.d ?_
 refine RunsI.g 2 [.c 6, .c 7, .c 12] ?_
 refine RunsI.r ?_
 refine RegI.p 2 [(0, .int .u8 p0), (1, .int .u16 p1), (17, .bool (!t5))] ?_
 refine RegI.d ?_
 rcases of_cond h with ⟨hc6, h⟩ | ⟨hc6, h⟩
 ·skip
  refine RunsI.f 17 true hc6 ?_
  refine RunsI.b true 8 ?_
  refine RunsI.g 1 [.c 9, .c 10, .c 12] ?_
  refine RunsI.r ?_
  refine RegI.p 1 [(4, .bool false)] ?_
  refine RegI.d ?_
  refine RunsI.t (.bool false) ?_
  obtain rfl := Option.some.inj h
  exact ⟨rfl, h3.below⟩
 ·skip
  refine RunsI.f 17 false hc6 ?_
  refine RunsI.b false 11 ?_
  refine RunsI.g 1 [.c 12] ?_
  refine RunsI.g 1 [.c 13, .c 14] ?_
  refine RunsI.r ?_
  refine RegI.p 1 [(0, .int .u8 p0), (1, .int .u16 p1), (6, .slice none 0 0)] ?_
  refine RegI.d ?_
  refine RunsI.g 2 [.c 16, .c 17, .c 105] ?_
  refine RunsI.r ?_
  refine RegI.p 1 [(0, .int .u8 p0), (1, .int .u16 p1), (6, .slice none 0 0), (7, .int .i64 0)] ?_
  refine RegI.d ?_
  refine RunsI.g 2 [.c 19, .lp 19, .blk 0, .c 105] ?_
  obtain ⟨x129, hx130, h⟩ := of_bind h
  have h7 := h3.addOwnNil Rp.str 9
  refine RunsI.l [0, 1, 6, 7] [(0, .int .u8 p0), (1, .int .u16 p1), (6, .slice none (([] : List ByteArray).length) 0), (7, .int .i64 0)] ?_
  refine charabanclaw09_TextOwn_9.l2_ok K M0 w0 p0 p1 _ x129 ?_ ?_ K ([] : List ByteArray) 0 none 0 w1 hx130 (h7.pick [14, 0, 1, 2, 3, 4, 5, 6, 7, 8, 9, 10, 11, 12, 13] (by decide))
  ·intro t133 A131 c132 w135 hq142 h134
   (try rw [hq142] at h)
   dsimp only [Lp.elim] at h
   refine RunsI.g 1 [.c 106, .c 107] ?_
   refine RunsI.r ?_
   refine RegI.p 4 [(4, .bool ((t133.length : Int) == 252))] ?_
   refine RegI.d ?_
   refine RunsI.t (.bool ((t133.length : Int) == 252)) ?_
   obtain rfl := Option.some.inj h
   exact ⟨rfl, h134.below⟩
  ·intro w137 hq143 h136
   (try rw [hq143] at h)
   dsimp only [Lp.elim] at h
   obtain rfl := Option.some.inj h
   exact ⟨rfl, h136.below⟩
end
end Go.Proofs.YtilgjfckgkkfmaaDoor.Tex
