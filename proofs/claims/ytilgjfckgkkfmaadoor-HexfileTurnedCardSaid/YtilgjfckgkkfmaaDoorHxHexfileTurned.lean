/- The statement's function HexfileTurned as a plain Lean function; written by wip/eng.py. -/
import Derived.Test.YtilgjfckgkkfmaaDoorHx3
set_option linter.unusedVariables false
set_option linter.unusedSimpArgs false
set_option maxHeartbeats 4000000
namespace Go.Proofs.YtilgjfckgkkfmaaDoor.Hx
open Go.RowKit Go.Eng
noncomputable def B6 : Code := (Tryd.f6.body).getD .skip
noncomputable def F6 : Fun Tryd.prog := ⟨6, Tryd.f6, B6, 96, Tryd.func6, by kernel_rfl, by kernel_rfl, [], none⟩

/-! ### charabanc/charabanclaw33.HexfileTurned (function 6) -/
section
def charabanclaw33_HexfileTurned_6.post (M0 : Nat → Prop) (w0 : World) (r : Bool) : Ending → World → Prop := fun e w => e = .returned (.bool r) ∧ Below w0.heap.size w0 w
def charabanclaw33_HexfileTurned_6.l0 (K : Nat) (p0_0 : Int) (p0_1 : Int) (p0_2 : List Int) (p1 : Int) (p2 : Int) (t28 : ByteArray) (t29 : Int) : Nat → Int → Int → Option Int
 | 0, _, _ => none
 | k + 1, t30, t31 => cond (decide (t31 < 16)) (cond (inR t31 (⟨#[48, 49, 50, 51, 52, 53, 54, 55, 56, 57, 65, 66, 67, 68, 69, 70]⟩ : ByteArray).size) (cond (inR t29 t28.size) (cond ((btD (⟨#[48, 49, 50, 51, 52, 53, 54, 55, 56, 57, 65, 66, 67, 68, 69, 70]⟩ : ByteArray) t31) == (btD t28 t29)) (charabanclaw33_HexfileTurned_6.l0 K p0_0 p0_1 p0_2 p1 p2 t28 t29 k t31 (IntKind.wrap .i64 (t31 + 1))) (charabanclaw33_HexfileTurned_6.l0 K p0_0 p0_1 p0_2 p1 p2 t28 t29 k t30 (IntKind.wrap .i64 (t31 + 1)))) none) none) (some t30)
set_option maxRecDepth 100000 in
theorem charabanclaw33_HexfileTurned_6.l0_ok (K : Nat) (M0 : Nat → Prop) (w0 : World) (pA0_2 : Option Addr) (pc0_2 : Nat) (p0_0 : Int) (p0_1 : Int) (p0_2 : List Int) (p1 : Int) (p2 : Int) (t28 : ByteArray) (t29 : Int) (R : Ending → World → Prop) (x : Int) (hk0 : ∀ (t43 : Int) (w1 : World), x = t43 → Holds M0 w0 w1 [] → RunsI F6 [.c 47] [(2, .int .u8 p2), (8, .string t28), (10, .string (⟨#[48, 49, 50, 51, 52, 53, 54, 55, 56, 57, 65, 66, 67, 68, 69, 70]⟩ : ByteArray)), (11, .int .i64 t29), (12, .int .i64 t43)] w1 R) :
  ∀ (k : Nat) (t30 : Int) (t31 : Int) (w : World), charabanclaw33_HexfileTurned_6.l0 K p0_0 p0_1 p0_2 p1 p2 t28 t29 k t30 t31 = some x → Holds M0 w0 w [] → RunsI F6 [.c 33, .lp 33, .blk 0, .c 47] [(2, .int .u8 p2), (8, .string t28), (10, .string (⟨#[48, 49, 50, 51, 52, 53, 54, 55, 56, 57, 65, 66, 67, 68, 69, 70]⟩ : ByteArray)), (11, .int .i64 t29), (12, .int .i64 t30), (13, .int .i64 t31)] w R := by
 intro k
 induction k with
 | zero => intro t30 t31 w h hH; exact absurd h (by simp [charabanclaw33_HexfileTurned_6.l0])
 | succ k ih =>
  intro t30 t31 w h hH
  rw [charabanclaw33_HexfileTurned_6.l0.eq_2] at h
  refine RunsI.g 1 [.c 34, .c 39, .lp 33, .blk 0, .c 47] ?_
  refine RunsI.g 1 [.c 35, .c 36, .c 39, .lp 33, .blk 0, .c 47] ?_
  refine RunsI.r ?_
  refine RegI.p 2 [(2, .int .u8 p2), (8, .string t28), (10, .string (⟨#[48, 49, 50, 51, 52, 53, 54, 55, 56, 57, 65, 66, 67, 68, 69, 70]⟩ : ByteArray)), (11, .int .i64 t29), (12, .int .i64 t30), (13, .int .i64 t31), (48, .bool (decide (t31 < 16)))] ?_
  refine RegI.d ?_
  rcases of_cond h with ⟨hc32, h⟩ | ⟨hc32, h⟩
  ·skip
   refine RunsI.f 48 true hc32 ?_
   refine RunsI.b true 37 ?_
   refine RunsI.g 1 [.c 39, .lp 33, .blk 0, .c 47] ?_
   refine RunsI.g 3 [.c 42, .c 43, .blk 1, .c 46, .lp 33, .blk 0, .c 47] ?_
   refine RunsI.any 7 (by kernel_rfl) (by kernel_rfl) (by kernel_rfl) (Kp ([] : List Nat) (World.drew w)) ?_
   have h34 := hH.drew
   generalize World.drew w = w33 at h34 ⊢
   have hS35 := Kp.refl ([] : List Nat) w33
   refine AnyE.pure 0 51 (.string (⟨#[48, 49, 50, 51, 52, 53, 54, 55, 56, 57, 65, 66, 67, 68, 69, 70]⟩ : ByteArray)) (by kernel_rfl) hS35 (fun _ => by kernel_rfl) ?_
   refine AnyE.pure 1 52 (.int .i64 t31) (by kernel_rfl) hS35 (fun _ => by kernel_rfl) ?_
   obtain ⟨hc37, h⟩ := of_cond0 h
   refine AnyE.run 2 53 (.int .u8 (btD (⟨#[48, 49, 50, 51, 52, 53, 54, 55, 56, 57, 65, 66, 67, 68, 69, 70]⟩ : ByteArray) t31)) (by kernel_rfl) hS35 (fun _ hk => run_strIdx (T0 := 9) (s := (⟨#[48, 49, 50, 51, 52, 53, 54, 55, 56, 57, 65, 66, 67, 68, 69, 70]⟩ : ByteArray)) (j := t31) (by kernel_rfl) (by kernel_rfl) hc37) ?_
   refine AnyE.pure 3 54 (.string t28) (by kernel_rfl) hS35 (fun _ => by kernel_rfl) ?_
   refine AnyE.pure 4 55 (.int .i64 t29) (by kernel_rfl) hS35 (fun _ => by kernel_rfl) ?_
   obtain ⟨hc38, h⟩ := of_cond0 h
   refine AnyE.run 5 56 (.int .u8 (btD t28 t29)) (by kernel_rfl) hS35 (fun _ hk => run_strIdx (T0 := 9) (s := t28) (j := t29) (by kernel_rfl) (by kernel_rfl) hc38) ?_
   refine AnyE.pure 6 57 (.bool ((btD (⟨#[48, 49, 50, 51, 52, 53, 54, 55, 56, 57, 65, 66, 67, 68, 69, 70]⟩ : ByteArray) t31) == (btD t28 t29))) (by kernel_rfl) hS35 (fun _ => by kernel_rfl) ?_
   refine AnyE.done (by kernel_rfl) (fun w39 hu40 => ?_)
   have h41 := h34.call hu40
   refine RunsI.l [2, 8, 10, 11, 12, 13, 57] [(2, .int .u8 p2), (8, .string t28), (10, .string (⟨#[48, 49, 50, 51, 52, 53, 54, 55, 56, 57, 65, 66, 67, 68, 69, 70]⟩ : ByteArray)), (11, .int .i64 t29), (12, .int .i64 t30), (13, .int .i64 t31), (57, .bool ((btD (⟨#[48, 49, 50, 51, 52, 53, 54, 55, 56, 57, 65, 66, 67, 68, 69, 70]⟩ : ByteArray) t31) == (btD t28 t29)))] ?_
   rcases of_cond h with ⟨hc42, h⟩ | ⟨hc42, h⟩
   ·skip
    refine RunsI.f 57 true hc42 ?_
    refine RunsI.b true 44 ?_
    refine RunsI.r ?_
    refine RegI.p 2 [(2, .int .u8 p2), (8, .string t28), (10, .string (⟨#[48, 49, 50, 51, 52, 53, 54, 55, 56, 57, 65, 66, 67, 68, 69, 70]⟩ : ByteArray)), (11, .int .i64 t29), (12, .int .i64 t31), (13, .int .i64 t31)] ?_
    refine RegI.d ?_
    refine RunsI.g 1 [.c 46, .lp 33, .blk 0, .c 47] ?_
    refine RunsI.r ?_
    refine RegI.p 3 [(2, .int .u8 p2), (8, .string t28), (10, .string (⟨#[48, 49, 50, 51, 52, 53, 54, 55, 56, 57, 65, 66, 67, 68, 69, 70]⟩ : ByteArray)), (11, .int .i64 t29), (12, .int .i64 t31), (13, .int .i64 (IntKind.wrap .i64 (t31 + 1)))] ?_
    refine RegI.d ?_
    refine RunsI.g 1 [.c 33, .lp 33, .blk 0, .c 47] ?_
    refine RunsI.l [2, 8, 10, 11, 12, 13] [(2, .int .u8 p2), (8, .string t28), (10, .string (⟨#[48, 49, 50, 51, 52, 53, 54, 55, 56, 57, 65, 66, 67, 68, 69, 70]⟩ : ByteArray)), (11, .int .i64 t29), (12, .int .i64 t31), (13, .int .i64 (IntKind.wrap .i64 (t31 + 1)))] ?_
    exact ih t31 (IntKind.wrap .i64 (t31 + 1)) w39 h (h41.pick [] (by decide))
   ·skip
    refine RunsI.f 57 false hc42 ?_
    refine RunsI.b false 45 ?_
    refine RunsI.g 1 [.blk 1, .c 46, .lp 33, .blk 0, .c 47] ?_
    refine RunsI.g 1 [.c 46, .lp 33, .blk 0, .c 47] ?_
    refine RunsI.r ?_
    refine RegI.p 3 [(2, .int .u8 p2), (8, .string t28), (10, .string (⟨#[48, 49, 50, 51, 52, 53, 54, 55, 56, 57, 65, 66, 67, 68, 69, 70]⟩ : ByteArray)), (11, .int .i64 t29), (12, .int .i64 t30), (13, .int .i64 (IntKind.wrap .i64 (t31 + 1)))] ?_
    refine RegI.d ?_
    refine RunsI.g 1 [.c 33, .lp 33, .blk 0, .c 47] ?_
    refine RunsI.l [2, 8, 10, 11, 12, 13] [(2, .int .u8 p2), (8, .string t28), (10, .string (⟨#[48, 49, 50, 51, 52, 53, 54, 55, 56, 57, 65, 66, 67, 68, 69, 70]⟩ : ByteArray)), (11, .int .i64 t29), (12, .int .i64 t30), (13, .int .i64 (IntKind.wrap .i64 (t31 + 1)))] ?_
    exact ih t30 (IntKind.wrap .i64 (t31 + 1)) w39 h (h41.pick [] (by decide))
  ·skip
   refine RunsI.f 48 false hc32 ?_
   refine RunsI.b false 38 ?_
   refine RunsI.g 1 [.c 47] ?_
   refine RunsI.l [2, 8, 10, 11, 12] [(2, .int .u8 p2), (8, .string t28), (10, .string (⟨#[48, 49, 50, 51, 52, 53, 54, 55, 56, 57, 65, 66, 67, 68, 69, 70]⟩ : ByteArray)), (11, .int .i64 t29), (12, .int .i64 t30)] ?_
   exact hk0 t30 w (Option.some.inj h).symm (hH.pick [] (by decide))
def charabanclaw33_HexfileTurned_6.f (K : Nat) (p0_0 : Int) (p0_1 : Int) (p0_2 : List Int) (p1 : Int) (p2 : Int) : Option Bool := (charabanclaw33_awake_10.f K).bind fun t10 => cond (!t10) (some false) (Let (fun (t14 : Bool) => cond t14 (some true) ((hexfile_Line_11.f K p0_0 p0_1 p0_2).bind fun yt25 => cond ((IntKind.wrap .i64 ((yt25.1.size : Int) - 1)) != 0) ((charabanclaw33_HexfileTurned_6.l0 K p0_0 p0_1 p0_2 p1 p2 yt25.1 (IntKind.wrap .i64 (1 + (Int.tmod (band .i64 p1 65535) (IntKind.wrap .i64 ((yt25.1.size : Int) - 1))))) K 0 0).bind (fun t46 => cond (cutR 0 (IntKind.wrap .i64 (1 + (Int.tmod (band .i64 p1 65535) (IntKind.wrap .i64 ((yt25.1.size : Int) - 1))))) yt25.1.size) (cond (cutR (Int.tmod (IntKind.wrap .i64 ((IntKind.wrap .i64 (t46 + 1)) + (IntKind.wrap .i64 (Int.tmod p2 15)))) 16) (IntKind.wrap .i64 ((Int.tmod (IntKind.wrap .i64 ((IntKind.wrap .i64 (t46 + 1)) + (IntKind.wrap .i64 (Int.tmod p2 15)))) 16) + 1)) (⟨#[48, 49, 50, 51, 52, 53, 54, 55, 56, 57, 65, 66, 67, 68, 69, 70]⟩ : ByteArray).size) (cond (mayCat (strCut yt25.1 0 (IntKind.wrap .i64 (1 + (Int.tmod (band .i64 p1 65535) (IntKind.wrap .i64 ((yt25.1.size : Int) - 1)))))).size (strCut (⟨#[48, 49, 50, 51, 52, 53, 54, 55, 56, 57, 65, 66, 67, 68, 69, 70]⟩ : ByteArray) (Int.tmod (IntKind.wrap .i64 ((IntKind.wrap .i64 (t46 + 1)) + (IntKind.wrap .i64 (Int.tmod p2 15)))) 16) (IntKind.wrap .i64 ((Int.tmod (IntKind.wrap .i64 ((IntKind.wrap .i64 (t46 + 1)) + (IntKind.wrap .i64 (Int.tmod p2 15)))) 16) + 1))).size) (cond (cutR (IntKind.wrap .i64 ((IntKind.wrap .i64 (1 + (Int.tmod (band .i64 p1 65535) (IntKind.wrap .i64 ((yt25.1.size : Int) - 1))))) + 1)) (yt25.1.size : Int) yt25.1.size) (cond (mayCat ((strCut yt25.1 0 (IntKind.wrap .i64 (1 + (Int.tmod (band .i64 p1 65535) (IntKind.wrap .i64 ((yt25.1.size : Int) - 1)))))) ++ (strCut (⟨#[48, 49, 50, 51, 52, 53, 54, 55, 56, 57, 65, 66, 67, 68, 69, 70]⟩ : ByteArray) (Int.tmod (IntKind.wrap .i64 ((IntKind.wrap .i64 (t46 + 1)) + (IntKind.wrap .i64 (Int.tmod p2 15)))) 16) (IntKind.wrap .i64 ((Int.tmod (IntKind.wrap .i64 ((IntKind.wrap .i64 (t46 + 1)) + (IntKind.wrap .i64 (Int.tmod p2 15)))) 16) + 1)))).size (strCut yt25.1 (IntKind.wrap .i64 ((IntKind.wrap .i64 (1 + (Int.tmod (band .i64 p1 65535) (IntKind.wrap .i64 ((yt25.1.size : Int) - 1))))) + 1)) (yt25.1.size : Int)).size) ((hexfile_Parse_14.f K (((strCut yt25.1 0 (IntKind.wrap .i64 (1 + (Int.tmod (band .i64 p1 65535) (IntKind.wrap .i64 ((yt25.1.size : Int) - 1)))))) ++ (strCut (⟨#[48, 49, 50, 51, 52, 53, 54, 55, 56, 57, 65, 66, 67, 68, 69, 70]⟩ : ByteArray) (Int.tmod (IntKind.wrap .i64 ((IntKind.wrap .i64 (t46 + 1)) + (IntKind.wrap .i64 (Int.tmod p2 15)))) 16) (IntKind.wrap .i64 ((Int.tmod (IntKind.wrap .i64 ((IntKind.wrap .i64 (t46 + 1)) + (IntKind.wrap .i64 (Int.tmod p2 15)))) 16) + 1)))) ++ (strCut yt25.1 (IntKind.wrap .i64 ((IntKind.wrap .i64 (1 + (Int.tmod (band .i64 p1 65535) (IntKind.wrap .i64 ((yt25.1.size : Int) - 1))))) + 1)) (yt25.1.size : Int)))).bind fun yt65 => cond (!((ByteArray.toList (((strCut yt25.1 0 (IntKind.wrap .i64 (1 + (Int.tmod (band .i64 p1 65535) (IntKind.wrap .i64 ((yt25.1.size : Int) - 1)))))) ++ (strCut (⟨#[48, 49, 50, 51, 52, 53, 54, 55, 56, 57, 65, 66, 67, 68, 69, 70]⟩ : ByteArray) (Int.tmod (IntKind.wrap .i64 ((IntKind.wrap .i64 (t46 + 1)) + (IntKind.wrap .i64 (Int.tmod p2 15)))) 16) (IntKind.wrap .i64 ((Int.tmod (IntKind.wrap .i64 ((IntKind.wrap .i64 (t46 + 1)) + (IntKind.wrap .i64 (Int.tmod p2 15)))) 16) + 1)))) ++ (strCut yt25.1 (IntKind.wrap .i64 ((IntKind.wrap .i64 (1 + (Int.tmod (band .i64 p1 65535) (IntKind.wrap .i64 ((yt25.1.size : Int) - 1))))) + 1)) (yt25.1.size : Int)))) == (ByteArray.toList yt25.1))) (cond (yt65.2.2.2 == 331) (some true) (some (yt65.2.2.2 == 330))) (some false)) none) none) none) none) none)) none)) (fun j17 => cond (decide ((p0_2.length : Int) > 255)) (j17 true) (cond ((Int.tmod p2 15) == 14) (j17 ((Int.tmod p2 16) == 15)) (j17 false))))
set_option maxRecDepth 100000 in
theorem charabanclaw33_HexfileTurned_6_ok (K : Nat) (M0 : Nat → Prop) (w0 : World) (pA0_2 : Option Addr) (pc0_2 : Nat) (p0_0 : Int) (p0_1 : Int) (p0_2 : List Int) (p1 : Int) (p2 : Int) (ho : ∀ b, M0 b → b < w0.heap.size) (hs0_2 : Sl (Rp.int .u8) w0 M0 (.slice pA0_2 p0_2.length pc0_2) p0_2) {r : Bool} (h : charabanclaw33_HexfileTurned_6.f K p0_0 p0_1 p0_2 p1 p2 = some r) :
  Calls Tryd.prog 6 #[.agg #[.int .u8 p0_0, .int .u16 p0_1, .slice pA0_2 p0_2.length pc0_2], .int .i64 p1, .int .u8 p2] w0 (charabanclaw33_HexfileTurned_6.post M0 w0 r) := by
 unfold charabanclaw33_HexfileTurned_6.f at h
 have h0 : Holds M0 w0 w0 [] := Holds.start ho
 have h00_2 := h0.addSl (Rp.int .u8) (.slice pA0_2 p0_2.length pc0_2) p0_2 (hs0_2.mono (fun _ _ hm => hm.elim id (fun hm => absurd hm (by simp [mines, sl]))))
 have h0 : Holds M0 w0 w0 [sl (Rp.int .u8) (.slice pA0_2 p0_2.length pc0_2) p0_2] := h00_2
 refine calls_of F6 rfl [.agg #[.int .u8 p0_0, .int .u16 p0_1, .slice pA0_2 p0_2.length pc0_2], .int .i64 p1, .int .u8 p2] (by kernel_rfl) ?_
 refine RunsI.g 1 [.c 1, .c 2] ?_
 refine RunsI.r ?_
 refine RegI.o (OpE.box 3 25 [.int .u8 p0_0, .int .u16 p0_1, .slice pA0_2 p0_2.length pc0_2] h0 (by kernel_rfl) (by kernel_rfl) ?_)
 intro w1 b2 h3 hb4 hn5
 refine RegI.p 1 [(1, .int .i64 p1), (2, .int .u8 p2), (3, .pointer (some ⟨b2, 0, none⟩))] ?_
 refine RegI.d ?_
 refine RunsI.g 1 [.c 3, .c 4] ?_
 refine RunsI.r ?_
 obtain ⟨t10, hg9, h⟩ := of_bind h
 refine RegI.o (OpE.call 18 (by kernel_rfl) 10 #[] (by kernel_rfl) ((charabanclaw33_awake_10_ok K _ w1  h3.old' hg9).mono ?_))
 rintro _ w6 ⟨rfl, hb7⟩
 refine ⟨_, rfl, ?_⟩
 have h8 := h3.call hb7
 refine RegI.p 1 [(1, .int .i64 p1), (2, .int .u8 p2), (3, .pointer (some ⟨b2, 0, none⟩)), (7, .bool t10)] ?_
 refine RegI.d ?_
 refine RunsI.g 2 [.c 6, .c 7, .c 12] ?_
 refine RunsI.r ?_
 refine RegI.p 2 [(1, .int .i64 p1), (2, .int .u8 p2), (3, .pointer (some ⟨b2, 0, none⟩)), (20, .bool (!t10))] ?_
 refine RegI.d ?_
 rcases of_cond h with ⟨hc11, h⟩ | ⟨hc11, h⟩
 ·skip
  refine RunsI.f 20 true hc11 ?_
  refine RunsI.b true 8 ?_
  refine RunsI.g 1 [.c 9, .c 10, .c 12] ?_
  refine RunsI.r ?_
  refine RegI.p 1 [(6, .bool false)] ?_
  refine RegI.d ?_
  refine RunsI.t (.bool false) ?_
  obtain rfl := Option.some.inj h
  exact ⟨rfl, h8.below⟩
 ·skip
  refine RunsI.f 20 false hc11 ?_
  refine RunsI.b false 11 ?_
  refine RunsI.g 1 [.c 12] ?_
  refine RunsI.g 2 [.c 14, .c 15, .c 20] ?_
  refine RunsI.r ?_
  refine RegI.p 1 [(1, .int .i64 p1), (2, .int .u8 p2), (3, .pointer (some ⟨b2, 0, none⟩)), (21, .pointer (some ⟨b2, 2, none⟩))] ?_
  refine RegI.o (OpE.loadBox 22 1 23 b2 2 (.slice pA0_2 p0_2.length pc0_2) h8 (by kernel_rfl) (by kernel_rfl) rfl (by kernel_rfl) ?_)
  refine RegI.p 3 [(1, .int .i64 p1), (2, .int .u8 p2), (3, .pointer (some ⟨b2, 0, none⟩)), (25, .bool (decide ((p0_2.length : Int) > 255)))] ?_
  obtain ⟨j17, hJ18, h⟩ := of_let h
  have hj19 : ∀ (t14 : Bool) (w16 : World), j17 t14 = some r → Holds M0 w0 w16 [box b2 25 [.int .u8 p0_0, .int .u16 p0_1, .slice pA0_2 p0_2.length pc0_2], sl (Rp.int .u8) (.slice pA0_2 p0_2.length pc0_2) p0_2] → RegI F6 14 [.c 15, .c 20] 14 [(1, .int .i64 p1), (2, .int .u8 p2), (3, .pointer (some ⟨b2, 0, none⟩)), (34, .bool t14)] w16 (charabanclaw33_HexfileTurned_6.post M0 w0 r) := by
   intro t14 w16 h h15
   rw [hJ18] at h
   clear hJ18
   dsimp only at h
   refine RegI.d ?_
   rcases of_cond h with ⟨hc20, h⟩ | ⟨hc20, h⟩
   ·skip
    refine RunsI.f 34 true hc20 ?_
    refine RunsI.b true 16 ?_
    refine RunsI.g 1 [.c 17, .c 18, .c 20] ?_
    refine RunsI.r ?_
    refine RegI.p 1 [(6, .bool true)] ?_
    refine RegI.d ?_
    refine RunsI.t (.bool true) ?_
    obtain rfl := Option.some.inj h
    exact ⟨rfl, h15.below⟩
   ·skip
    refine RunsI.f 34 false hc20 ?_
    refine RunsI.b false 19 ?_
    refine RunsI.g 1 [.c 20] ?_
    refine RunsI.g 1 [.c 21, .c 22] ?_
    refine RunsI.r ?_
    refine RegI.o (OpE.loadBox 36 0 25 b2 0 (.agg #[.int .u8 p0_0, .int .u16 p0_1, .slice pA0_2 p0_2.length pc0_2]) h15 (by kernel_rfl) (by kernel_rfl) rfl (by kernel_rfl) ?_)
    obtain ⟨⟨t25, t26⟩, hg24, h⟩ := of_bind h
    dsimp only at h
    refine RegI.o (OpE.call 37 (by kernel_rfl) 11 #[.agg #[.int .u8 p0_0, .int .u16 p0_1, .slice pA0_2 p0_2.length pc0_2]] (by kernel_rfl) ((hexfile_Line_11_ok K _ w16  pA0_2 pc0_2 p0_0 p0_1 p0_2 h15.old' (h15.get 1 rfl) hg24).mono ?_))
    rintro _ w21 ⟨rfl, hb22⟩
    refine ⟨_, rfl, ?_⟩
    have h23 := h15.call hb22
    refine RegI.p 5 [(1, .int .i64 p1), (2, .int .u8 p2), (8, .string t25)] ?_
    refine RegI.d ?_
    refine RunsI.g 1 [.c 23, .c 24] ?_
    refine RunsI.r ?_
    refine RegI.p 1 [(1, .int .i64 p1), (2, .int .u8 p2), (8, .string t25), (10, .string (⟨#[48, 49, 50, 51, 52, 53, 54, 55, 56, 57, 65, 66, 67, 68, 69, 70]⟩ : ByteArray))] ?_
    refine RegI.d ?_
    refine RunsI.g 1 [.c 25, .c 26] ?_
    refine RunsI.r ?_
    refine RegI.p 5 [(2, .int .u8 p2), (8, .string t25), (10, .string (⟨#[48, 49, 50, 51, 52, 53, 54, 55, 56, 57, 65, 66, 67, 68, 69, 70]⟩ : ByteArray)), (41, .int .i64 (band .i64 p1 65535)), (44, .int .i64 (IntKind.wrap .i64 ((t25.size : Int) - 1)))] ?_
    obtain ⟨hc27, h⟩ := of_cond0 h
    refine RegI.o (OpE.run 45 (by kernel_rfl) (run_rem (k := .i64) (a := (band .i64 p1 65535)) (b := (IntKind.wrap .i64 ((t25.size : Int) - 1))) (by kernel_rfl) hc27) ?_)
    refine RegI.p 2 [(2, .int .u8 p2), (8, .string t25), (10, .string (⟨#[48, 49, 50, 51, 52, 53, 54, 55, 56, 57, 65, 66, 67, 68, 69, 70]⟩ : ByteArray)), (11, .int .i64 (IntKind.wrap .i64 (1 + (Int.tmod (band .i64 p1 65535) (IntKind.wrap .i64 ((t25.size : Int) - 1))))))] ?_
    refine RegI.d ?_
    refine RunsI.g 1 [.c 27, .c 28] ?_
    refine RunsI.r ?_
    refine RegI.p 1 [(2, .int .u8 p2), (8, .string t25), (10, .string (⟨#[48, 49, 50, 51, 52, 53, 54, 55, 56, 57, 65, 66, 67, 68, 69, 70]⟩ : ByteArray)), (11, .int .i64 (IntKind.wrap .i64 (1 + (Int.tmod (band .i64 p1 65535) (IntKind.wrap .i64 ((t25.size : Int) - 1)))))), (12, .int .i64 0)] ?_
    refine RegI.d ?_
    refine RunsI.g 2 [.c 30, .c 31, .c 47] ?_
    refine RunsI.r ?_
    refine RegI.p 1 [(2, .int .u8 p2), (8, .string t25), (10, .string (⟨#[48, 49, 50, 51, 52, 53, 54, 55, 56, 57, 65, 66, 67, 68, 69, 70]⟩ : ByteArray)), (11, .int .i64 (IntKind.wrap .i64 (1 + (Int.tmod (band .i64 p1 65535) (IntKind.wrap .i64 ((t25.size : Int) - 1)))))), (12, .int .i64 0), (13, .int .i64 0)] ?_
    refine RegI.d ?_
    refine RunsI.g 2 [.c 33, .lp 33, .blk 0, .c 47] ?_
    obtain ⟨x44, hx45, h⟩ := of_bind h
    refine RunsI.l [2, 8, 10, 11, 12, 13] [(2, .int .u8 p2), (8, .string t25), (10, .string (⟨#[48, 49, 50, 51, 52, 53, 54, 55, 56, 57, 65, 66, 67, 68, 69, 70]⟩ : ByteArray)), (11, .int .i64 (IntKind.wrap .i64 (1 + (Int.tmod (band .i64 p1 65535) (IntKind.wrap .i64 ((t25.size : Int) - 1)))))), (12, .int .i64 0), (13, .int .i64 0)] ?_
    refine charabanclaw33_HexfileTurned_6.l0_ok K M0 w0 pA0_2 pc0_2 p0_0 p0_1 p0_2 p1 p2 t25 (IntKind.wrap .i64 (1 + (Int.tmod (band .i64 p1 65535) (IntKind.wrap .i64 ((t25.size : Int) - 1))))) _ x44 ?_ K 0 0 w21 hx45 (h23.pick [] (by decide))
    ·intro t46 w48 hq83 h47
     (try rw [hq83] at h)
     refine RunsI.g 1 [.c 48, .c 49] ?_
     refine RunsI.r ?_
     refine RegI.p 8 [(8, .string t25), (10, .string (⟨#[48, 49, 50, 51, 52, 53, 54, 55, 56, 57, 65, 66, 67, 68, 69, 70]⟩ : ByteArray)), (11, .int .i64 (IntKind.wrap .i64 (1 + (Int.tmod (band .i64 p1 65535) (IntKind.wrap .i64 ((t25.size : Int) - 1)))))), (14, .int .i64 (Int.tmod (IntKind.wrap .i64 ((IntKind.wrap .i64 (t46 + 1)) + (IntKind.wrap .i64 (Int.tmod p2 15)))) 16))] ?_
     refine RegI.d ?_
     refine RunsI.g 1 [.c 50, .c 51] ?_
     refine RunsI.any 15 (by kernel_rfl) (by kernel_rfl) (by kernel_rfl) (Kp ([] : List Nat) (World.drew w48)) ?_
     have h50 := h47.drew
     generalize World.drew w48 = w49 at h50 ⊢
     have hS51 := Kp.refl ([] : List Nat) w49
     refine AnyE.pure 0 66 (.string t25) (by kernel_rfl) hS51 (fun _ => by kernel_rfl) ?_
     refine AnyE.pure 1 67 (.int .i64 (IntKind.wrap .i64 (1 + (Int.tmod (band .i64 p1 65535) (IntKind.wrap .i64 ((t25.size : Int) - 1)))))) (by kernel_rfl) hS51 (fun _ => by kernel_rfl) ?_
     obtain ⟨hc53, h⟩ := of_cond0 h
     refine AnyE.run 2 68 (.string (strCut t25 0 (IntKind.wrap .i64 (1 + (Int.tmod (band .i64 p1 65535) (IntKind.wrap .i64 ((t25.size : Int) - 1))))))) (by kernel_rfl) hS51 (fun _ hk => run_strCut (T := 9) (s := t25) (lo := none) (hi := (some (IntKind.wrap .i64 (1 + (Int.tmod (band .i64 p1 65535) (IntKind.wrap .i64 ((t25.size : Int) - 1))))))) (by kernel_rfl) (by kernel_rfl) hc53) ?_
     refine AnyE.pure 3 69 (.string (⟨#[48, 49, 50, 51, 52, 53, 54, 55, 56, 57, 65, 66, 67, 68, 69, 70]⟩ : ByteArray)) (by kernel_rfl) hS51 (fun _ => by kernel_rfl) ?_
     refine AnyE.pure 4 70 (.int .i64 (Int.tmod (IntKind.wrap .i64 ((IntKind.wrap .i64 (t46 + 1)) + (IntKind.wrap .i64 (Int.tmod p2 15)))) 16)) (by kernel_rfl) hS51 (fun _ => by kernel_rfl) ?_
     refine AnyE.pure 5 71 (.int .i64 (Int.tmod (IntKind.wrap .i64 ((IntKind.wrap .i64 (t46 + 1)) + (IntKind.wrap .i64 (Int.tmod p2 15)))) 16)) (by kernel_rfl) hS51 (fun _ => by kernel_rfl) ?_
     refine AnyE.pure 6 72 (.int .i64 (IntKind.wrap .i64 ((Int.tmod (IntKind.wrap .i64 ((IntKind.wrap .i64 (t46 + 1)) + (IntKind.wrap .i64 (Int.tmod p2 15)))) 16) + 1))) (by kernel_rfl) hS51 (fun _ => by kernel_rfl) ?_
     obtain ⟨hc54, h⟩ := of_cond0 h
     refine AnyE.run 7 73 (.string (strCut (⟨#[48, 49, 50, 51, 52, 53, 54, 55, 56, 57, 65, 66, 67, 68, 69, 70]⟩ : ByteArray) (Int.tmod (IntKind.wrap .i64 ((IntKind.wrap .i64 (t46 + 1)) + (IntKind.wrap .i64 (Int.tmod p2 15)))) 16) (IntKind.wrap .i64 ((Int.tmod (IntKind.wrap .i64 ((IntKind.wrap .i64 (t46 + 1)) + (IntKind.wrap .i64 (Int.tmod p2 15)))) 16) + 1)))) (by kernel_rfl) hS51 (fun _ hk => run_strCut (T := 9) (s := (⟨#[48, 49, 50, 51, 52, 53, 54, 55, 56, 57, 65, 66, 67, 68, 69, 70]⟩ : ByteArray)) (lo := (some (Int.tmod (IntKind.wrap .i64 ((IntKind.wrap .i64 (t46 + 1)) + (IntKind.wrap .i64 (Int.tmod p2 15)))) 16))) (hi := (some (IntKind.wrap .i64 ((Int.tmod (IntKind.wrap .i64 ((IntKind.wrap .i64 (t46 + 1)) + (IntKind.wrap .i64 (Int.tmod p2 15)))) 16) + 1)))) (by kernel_rfl) (by kernel_rfl) hc54) ?_
     obtain ⟨hc55, h⟩ := of_cond0 h
     refine AnyE.run 8 74 (.string ((strCut t25 0 (IntKind.wrap .i64 (1 + (Int.tmod (band .i64 p1 65535) (IntKind.wrap .i64 ((t25.size : Int) - 1)))))) ++ (strCut (⟨#[48, 49, 50, 51, 52, 53, 54, 55, 56, 57, 65, 66, 67, 68, 69, 70]⟩ : ByteArray) (Int.tmod (IntKind.wrap .i64 ((IntKind.wrap .i64 (t46 + 1)) + (IntKind.wrap .i64 (Int.tmod p2 15)))) 16) (IntKind.wrap .i64 ((Int.tmod (IntKind.wrap .i64 ((IntKind.wrap .i64 (t46 + 1)) + (IntKind.wrap .i64 (Int.tmod p2 15)))) 16) + 1))))) (by kernel_rfl) hS51 (fun _ hk => run_cat (a := (strCut t25 0 (IntKind.wrap .i64 (1 + (Int.tmod (band .i64 p1 65535) (IntKind.wrap .i64 ((t25.size : Int) - 1))))))) (b := (strCut (⟨#[48, 49, 50, 51, 52, 53, 54, 55, 56, 57, 65, 66, 67, 68, 69, 70]⟩ : ByteArray) (Int.tmod (IntKind.wrap .i64 ((IntKind.wrap .i64 (t46 + 1)) + (IntKind.wrap .i64 (Int.tmod p2 15)))) 16) (IntKind.wrap .i64 ((Int.tmod (IntKind.wrap .i64 ((IntKind.wrap .i64 (t46 + 1)) + (IntKind.wrap .i64 (Int.tmod p2 15)))) 16) + 1)))) (by kernel_rfl) hc55) ?_
     refine AnyE.pure 9 75 (.string t25) (by kernel_rfl) hS51 (fun _ => by kernel_rfl) ?_
     refine AnyE.pure 10 76 (.int .i64 (IntKind.wrap .i64 (1 + (Int.tmod (band .i64 p1 65535) (IntKind.wrap .i64 ((t25.size : Int) - 1)))))) (by kernel_rfl) hS51 (fun _ => by kernel_rfl) ?_
     refine AnyE.pure 11 77 (.int .i64 (IntKind.wrap .i64 ((IntKind.wrap .i64 (1 + (Int.tmod (band .i64 p1 65535) (IntKind.wrap .i64 ((t25.size : Int) - 1))))) + 1))) (by kernel_rfl) hS51 (fun _ => by kernel_rfl) ?_
     obtain ⟨hc56, h⟩ := of_cond0 h
     refine AnyE.run 12 78 (.string (strCut t25 (IntKind.wrap .i64 ((IntKind.wrap .i64 (1 + (Int.tmod (band .i64 p1 65535) (IntKind.wrap .i64 ((t25.size : Int) - 1))))) + 1)) (t25.size : Int))) (by kernel_rfl) hS51 (fun _ hk => run_strCut (T := 9) (s := t25) (lo := (some (IntKind.wrap .i64 ((IntKind.wrap .i64 (1 + (Int.tmod (band .i64 p1 65535) (IntKind.wrap .i64 ((t25.size : Int) - 1))))) + 1)))) (hi := none) (by kernel_rfl) (by kernel_rfl) hc56) ?_
     obtain ⟨hc57, h⟩ := of_cond0 h
     refine AnyE.run 13 79 (.string (((strCut t25 0 (IntKind.wrap .i64 (1 + (Int.tmod (band .i64 p1 65535) (IntKind.wrap .i64 ((t25.size : Int) - 1)))))) ++ (strCut (⟨#[48, 49, 50, 51, 52, 53, 54, 55, 56, 57, 65, 66, 67, 68, 69, 70]⟩ : ByteArray) (Int.tmod (IntKind.wrap .i64 ((IntKind.wrap .i64 (t46 + 1)) + (IntKind.wrap .i64 (Int.tmod p2 15)))) 16) (IntKind.wrap .i64 ((Int.tmod (IntKind.wrap .i64 ((IntKind.wrap .i64 (t46 + 1)) + (IntKind.wrap .i64 (Int.tmod p2 15)))) 16) + 1)))) ++ (strCut t25 (IntKind.wrap .i64 ((IntKind.wrap .i64 (1 + (Int.tmod (band .i64 p1 65535) (IntKind.wrap .i64 ((t25.size : Int) - 1))))) + 1)) (t25.size : Int)))) (by kernel_rfl) hS51 (fun _ hk => run_cat (a := ((strCut t25 0 (IntKind.wrap .i64 (1 + (Int.tmod (band .i64 p1 65535) (IntKind.wrap .i64 ((t25.size : Int) - 1)))))) ++ (strCut (⟨#[48, 49, 50, 51, 52, 53, 54, 55, 56, 57, 65, 66, 67, 68, 69, 70]⟩ : ByteArray) (Int.tmod (IntKind.wrap .i64 ((IntKind.wrap .i64 (t46 + 1)) + (IntKind.wrap .i64 (Int.tmod p2 15)))) 16) (IntKind.wrap .i64 ((Int.tmod (IntKind.wrap .i64 ((IntKind.wrap .i64 (t46 + 1)) + (IntKind.wrap .i64 (Int.tmod p2 15)))) 16) + 1))))) (b := (strCut t25 (IntKind.wrap .i64 ((IntKind.wrap .i64 (1 + (Int.tmod (band .i64 p1 65535) (IntKind.wrap .i64 ((t25.size : Int) - 1))))) + 1)) (t25.size : Int))) (by kernel_rfl) hc57) ?_
     refine AnyE.pure 14 15 (.string (((strCut t25 0 (IntKind.wrap .i64 (1 + (Int.tmod (band .i64 p1 65535) (IntKind.wrap .i64 ((t25.size : Int) - 1)))))) ++ (strCut (⟨#[48, 49, 50, 51, 52, 53, 54, 55, 56, 57, 65, 66, 67, 68, 69, 70]⟩ : ByteArray) (Int.tmod (IntKind.wrap .i64 ((IntKind.wrap .i64 (t46 + 1)) + (IntKind.wrap .i64 (Int.tmod p2 15)))) 16) (IntKind.wrap .i64 ((Int.tmod (IntKind.wrap .i64 ((IntKind.wrap .i64 (t46 + 1)) + (IntKind.wrap .i64 (Int.tmod p2 15)))) 16) + 1)))) ++ (strCut t25 (IntKind.wrap .i64 ((IntKind.wrap .i64 (1 + (Int.tmod (band .i64 p1 65535) (IntKind.wrap .i64 ((t25.size : Int) - 1))))) + 1)) (t25.size : Int)))) (by kernel_rfl) hS51 (fun _ => by kernel_rfl) ?_
     refine AnyE.done (by kernel_rfl) (fun w58 hu59 => ?_)
     have h60 := h50.call hu59
     refine RunsI.l [8, 15] [(8, .string t25), (15, .string (((strCut t25 0 (IntKind.wrap .i64 (1 + (Int.tmod (band .i64 p1 65535) (IntKind.wrap .i64 ((t25.size : Int) - 1)))))) ++ (strCut (⟨#[48, 49, 50, 51, 52, 53, 54, 55, 56, 57, 65, 66, 67, 68, 69, 70]⟩ : ByteArray) (Int.tmod (IntKind.wrap .i64 ((IntKind.wrap .i64 (t46 + 1)) + (IntKind.wrap .i64 (Int.tmod p2 15)))) 16) (IntKind.wrap .i64 ((Int.tmod (IntKind.wrap .i64 ((IntKind.wrap .i64 (t46 + 1)) + (IntKind.wrap .i64 (Int.tmod p2 15)))) 16) + 1)))) ++ (strCut t25 (IntKind.wrap .i64 ((IntKind.wrap .i64 (1 + (Int.tmod (band .i64 p1 65535) (IntKind.wrap .i64 ((t25.size : Int) - 1))))) + 1)) (t25.size : Int))))] ?_
     refine RunsI.g 1 [.c 52, .c 53] ?_
     refine RunsI.r ?_
     refine RegI.p 1 [(8, .string t25), (15, .string (((strCut t25 0 (IntKind.wrap .i64 (1 + (Int.tmod (band .i64 p1 65535) (IntKind.wrap .i64 ((t25.size : Int) - 1)))))) ++ (strCut (⟨#[48, 49, 50, 51, 52, 53, 54, 55, 56, 57, 65, 66, 67, 68, 69, 70]⟩ : ByteArray) (Int.tmod (IntKind.wrap .i64 ((IntKind.wrap .i64 (t46 + 1)) + (IntKind.wrap .i64 (Int.tmod p2 15)))) 16) (IntKind.wrap .i64 ((Int.tmod (IntKind.wrap .i64 ((IntKind.wrap .i64 (t46 + 1)) + (IntKind.wrap .i64 (Int.tmod p2 15)))) 16) + 1)))) ++ (strCut t25 (IntKind.wrap .i64 ((IntKind.wrap .i64 (1 + (Int.tmod (band .i64 p1 65535) (IntKind.wrap .i64 ((t25.size : Int) - 1))))) + 1)) (t25.size : Int)))), (81, .string (((strCut t25 0 (IntKind.wrap .i64 (1 + (Int.tmod (band .i64 p1 65535) (IntKind.wrap .i64 ((t25.size : Int) - 1)))))) ++ (strCut (⟨#[48, 49, 50, 51, 52, 53, 54, 55, 56, 57, 65, 66, 67, 68, 69, 70]⟩ : ByteArray) (Int.tmod (IntKind.wrap .i64 ((IntKind.wrap .i64 (t46 + 1)) + (IntKind.wrap .i64 (Int.tmod p2 15)))) 16) (IntKind.wrap .i64 ((Int.tmod (IntKind.wrap .i64 ((IntKind.wrap .i64 (t46 + 1)) + (IntKind.wrap .i64 (Int.tmod p2 15)))) 16) + 1)))) ++ (strCut t25 (IntKind.wrap .i64 ((IntKind.wrap .i64 (1 + (Int.tmod (band .i64 p1 65535) (IntKind.wrap .i64 ((t25.size : Int) - 1))))) + 1)) (t25.size : Int))))] ?_
     obtain ⟨⟨t65, t66, t67, t71⟩, hg64, h⟩ := of_bind h
     dsimp only at h
     refine RegI.o (OpE.call 82 (by kernel_rfl) 14 #[.string (((strCut t25 0 (IntKind.wrap .i64 (1 + (Int.tmod (band .i64 p1 65535) (IntKind.wrap .i64 ((t25.size : Int) - 1)))))) ++ (strCut (⟨#[48, 49, 50, 51, 52, 53, 54, 55, 56, 57, 65, 66, 67, 68, 69, 70]⟩ : ByteArray) (Int.tmod (IntKind.wrap .i64 ((IntKind.wrap .i64 (t46 + 1)) + (IntKind.wrap .i64 (Int.tmod p2 15)))) 16) (IntKind.wrap .i64 ((Int.tmod (IntKind.wrap .i64 ((IntKind.wrap .i64 (t46 + 1)) + (IntKind.wrap .i64 (Int.tmod p2 15)))) 16) + 1)))) ++ (strCut t25 (IntKind.wrap .i64 ((IntKind.wrap .i64 (1 + (Int.tmod (band .i64 p1 65535) (IntKind.wrap .i64 ((t25.size : Int) - 1))))) + 1)) (t25.size : Int)))] (by kernel_rfl) ((hexfile_Parse_14_ok K _ w58  (((strCut t25 0 (IntKind.wrap .i64 (1 + (Int.tmod (band .i64 p1 65535) (IntKind.wrap .i64 ((t25.size : Int) - 1)))))) ++ (strCut (⟨#[48, 49, 50, 51, 52, 53, 54, 55, 56, 57, 65, 66, 67, 68, 69, 70]⟩ : ByteArray) (Int.tmod (IntKind.wrap .i64 ((IntKind.wrap .i64 (t46 + 1)) + (IntKind.wrap .i64 (Int.tmod p2 15)))) 16) (IntKind.wrap .i64 ((Int.tmod (IntKind.wrap .i64 ((IntKind.wrap .i64 (t46 + 1)) + (IntKind.wrap .i64 (Int.tmod p2 15)))) 16) + 1)))) ++ (strCut t25 (IntKind.wrap .i64 ((IntKind.wrap .i64 (1 + (Int.tmod (band .i64 p1 65535) (IntKind.wrap .i64 ((t25.size : Int) - 1))))) + 1)) (t25.size : Int))) h60.old' hg64).mono ?_))
     rintro _ w61 ⟨A68, c69, rfl, hr72⟩
     refine ⟨_, rfl, ?_⟩
     have hb62 := hr72.below
     have h63 := h60.join hr72
     refine RegI.p 3 [(8, .string t25), (15, .string (((strCut t25 0 (IntKind.wrap .i64 (1 + (Int.tmod (band .i64 p1 65535) (IntKind.wrap .i64 ((t25.size : Int) - 1)))))) ++ (strCut (⟨#[48, 49, 50, 51, 52, 53, 54, 55, 56, 57, 65, 66, 67, 68, 69, 70]⟩ : ByteArray) (Int.tmod (IntKind.wrap .i64 ((IntKind.wrap .i64 (t46 + 1)) + (IntKind.wrap .i64 (Int.tmod p2 15)))) 16) (IntKind.wrap .i64 ((Int.tmod (IntKind.wrap .i64 ((IntKind.wrap .i64 (t46 + 1)) + (IntKind.wrap .i64 (Int.tmod p2 15)))) 16) + 1)))) ++ (strCut t25 (IntKind.wrap .i64 ((IntKind.wrap .i64 (1 + (Int.tmod (band .i64 p1 65535) (IntKind.wrap .i64 ((t25.size : Int) - 1))))) + 1)) (t25.size : Int)))), (83, .agg #[.int .u8 t65, .int .u16 t66, .slice A68 t67.length c69]), (84, .int .i64 t71)] ?_
     refine RegI.o (OpE.box 16 25 [.int .u8 0, .int .u16 0, .slice none 0 0] h63 (by kernel_rfl) (by kernel_rfl) ?_)
     intro w73 b74 h75 hb76 hn77
     refine RegI.o (OpE.storeBox 1 25 b74 0 (.agg #[.int .u8 t65, .int .u16 t66, .slice A68 t67.length c69]) [.int .u8 t65, .int .u16 t66, .slice A68 t67.length c69] h75 (by kernel_rfl) (by kernel_rfl) rfl (by kernel_rfl) (by kernel_rfl) (by kernel_rfl) ?_)
     intro w78 h79 hk80
     refine RegI.p 1 [(8, .string t25), (15, .string (((strCut t25 0 (IntKind.wrap .i64 (1 + (Int.tmod (band .i64 p1 65535) (IntKind.wrap .i64 ((t25.size : Int) - 1)))))) ++ (strCut (⟨#[48, 49, 50, 51, 52, 53, 54, 55, 56, 57, 65, 66, 67, 68, 69, 70]⟩ : ByteArray) (Int.tmod (IntKind.wrap .i64 ((IntKind.wrap .i64 (t46 + 1)) + (IntKind.wrap .i64 (Int.tmod p2 15)))) 16) (IntKind.wrap .i64 ((Int.tmod (IntKind.wrap .i64 ((IntKind.wrap .i64 (t46 + 1)) + (IntKind.wrap .i64 (Int.tmod p2 15)))) 16) + 1)))) ++ (strCut t25 (IntKind.wrap .i64 ((IntKind.wrap .i64 (1 + (Int.tmod (band .i64 p1 65535) (IntKind.wrap .i64 ((t25.size : Int) - 1))))) + 1)) (t25.size : Int)))), (17, .int .i64 t71)] ?_
     refine RegI.d ?_
     refine RunsI.g 1 [.c 54, .c 55] ?_
     refine RunsI.r ?_
     refine RegI.p 4 [(17, .int .i64 t71), (88, .bool (!((ByteArray.toList (((strCut t25 0 (IntKind.wrap .i64 (1 + (Int.tmod (band .i64 p1 65535) (IntKind.wrap .i64 ((t25.size : Int) - 1)))))) ++ (strCut (⟨#[48, 49, 50, 51, 52, 53, 54, 55, 56, 57, 65, 66, 67, 68, 69, 70]⟩ : ByteArray) (Int.tmod (IntKind.wrap .i64 ((IntKind.wrap .i64 (t46 + 1)) + (IntKind.wrap .i64 (Int.tmod p2 15)))) 16) (IntKind.wrap .i64 ((Int.tmod (IntKind.wrap .i64 ((IntKind.wrap .i64 (t46 + 1)) + (IntKind.wrap .i64 (Int.tmod p2 15)))) 16) + 1)))) ++ (strCut t25 (IntKind.wrap .i64 ((IntKind.wrap .i64 (1 + (Int.tmod (band .i64 p1 65535) (IntKind.wrap .i64 ((t25.size : Int) - 1))))) + 1)) (t25.size : Int)))) == (ByteArray.toList t25))))] ?_
     rcases of_cond h with ⟨hc81, h⟩ | ⟨hc81, h⟩
     ·skip
      refine RegI.f 88 true hc81 ?_
      refine RegI.p 3 [(17, .int .i64 t71), (88, .bool true), (91, .bool (t71 == 331))] ?_
      rcases of_cond h with ⟨hc82, h⟩ | ⟨hc82, h⟩
      ·skip
       refine RegI.f 91 true hc82 ?_
       refine RegI.p 5 [(6, .bool true)] ?_
       refine RegI.d ?_
       refine RunsI.t (.bool true) ?_
       obtain rfl := Option.some.inj h
       exact ⟨rfl, h79.below⟩
      ·skip
       refine RegI.f 91 false hc82 ?_
       refine RegI.p 5 [(6, .bool (t71 == 330))] ?_
       refine RegI.d ?_
       refine RunsI.t (.bool (t71 == 330)) ?_
       obtain rfl := Option.some.inj h
       exact ⟨rfl, h79.below⟩
     ·skip
      refine RegI.f 88 false hc81 ?_
      refine RegI.p 8 [(6, .bool false)] ?_
      refine RegI.d ?_
      refine RunsI.t (.bool false) ?_
      obtain rfl := Option.some.inj h
      exact ⟨rfl, h79.below⟩
  clear hJ18
  rcases of_cond h with ⟨hc12, h⟩ | ⟨hc12, h⟩
  ·skip
   refine RegI.f 25 true hc12 ?_
   refine RegI.p 9 [(1, .int .i64 p1), (2, .int .u8 p2), (3, .pointer (some ⟨b2, 0, none⟩)), (34, .bool true)] ?_
   refine RegI.l [1, 2, 3, 34] [(1, .int .i64 p1), (2, .int .u8 p2), (3, .pointer (some ⟨b2, 0, none⟩)), (34, .bool true)] ?_
   exact hj19 true w6 h (h8.pick [1, 0] (by decide))
  ·skip
   refine RegI.f 25 false hc12 ?_
   refine RegI.p 4 [(1, .int .i64 p1), (2, .int .u8 p2), (3, .pointer (some ⟨b2, 0, none⟩)), (25, .bool false), (29, .bool ((Int.tmod p2 15) == 14))] ?_
   rcases of_cond h with ⟨hc13, h⟩ | ⟨hc13, h⟩
   ·skip
    refine RegI.f 29 true hc13 ?_
    refine RegI.p 5 [(1, .int .i64 p1), (2, .int .u8 p2), (3, .pointer (some ⟨b2, 0, none⟩)), (34, .bool ((Int.tmod p2 16) == 15))] ?_
    refine RegI.l [1, 2, 3, 34] [(1, .int .i64 p1), (2, .int .u8 p2), (3, .pointer (some ⟨b2, 0, none⟩)), (34, .bool ((Int.tmod p2 16) == 15))] ?_
    exact hj19 ((Int.tmod p2 16) == 15) w6 h (h8.pick [1, 0] (by decide))
   ·skip
    refine RegI.f 29 false hc13 ?_
    refine RegI.p 5 [(1, .int .i64 p1), (2, .int .u8 p2), (3, .pointer (some ⟨b2, 0, none⟩)), (34, .bool false)] ?_
    refine RegI.l [1, 2, 3, 34] [(1, .int .i64 p1), (2, .int .u8 p2), (3, .pointer (some ⟨b2, 0, none⟩)), (34, .bool false)] ?_
    exact hj19 false w6 h (h8.pick [1, 0] (by decide))
end
end Go.Proofs.YtilgjfckgkkfmaaDoor.Hx
