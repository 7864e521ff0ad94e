/- The statement's function CellsKeep as a plain Lean function; written by wip/eng.py. -/
import Derived.Test.YtbcepghanbkncaaCel2
set_option linter.unusedVariables false
set_option linter.unusedSimpArgs false
set_option maxHeartbeats 4000000
namespace Go.Proofs.Ytbcepghanbkncaa.Cel
open Go.RowKit Go.Eng
noncomputable def B6 : Code := (Try.f6.body).getD .skip
noncomputable def F6 : Fun Try.prog := ⟨6, Try.f6, B6, 91, Try.func6, by kernel_rfl, by kernel_rfl, [], none⟩

/-! ### charabanc/charabanclaw14.CellsKeep (function 6) -/
section
def charabanclaw14_CellsKeep_6.post (M0 : Nat → Prop) (w0 : World) (r : Bool) : Ending → World → Prop := fun e w => e = .returned (.bool r) ∧ Below w0.heap.size w0 w
def charabanclaw14_CellsKeep_6.l0 (K : Nat) (p0 : List (Int × Int)) (p1 : Int) (p2 : Int) (t52 : List (Int × Int)) (t55 : List (Int × Int)) : Nat → Int → Option (Lp Unit Unit)
 | 0, _ => none
 | k + 1, t56 => cond (decide (t56 < (t52.length : Int))) (cond (inR t56 t52.length) (Let (fun (t87 : Bool) => cond t87 (some (Lp.ret ())) (charabanclaw14_CellsKeep_6.l0 K p0 p1 p2 t52 t55 k (IntKind.wrap .i64 (t56 + 1)))) (fun j90 => cond (((rdD t52 t56).1) != p1) ((cells_Get_13.f K t55 ((rdD t52 t56).1)).bind fun t75 => j90 (t75 != ((rdD t52 t56).2))) (j90 false))) none) (some (Lp.go ()))
set_option maxRecDepth 100000 in
theorem charabanclaw14_CellsKeep_6.l0_ok (K : Nat) (M0 : Nat → Prop) (w0 : World) (pA0 : Option Addr) (pc0 : Nat) (p0 : List (Int × Int)) (p1 : Int) (p2 : Int) (t52 : List (Int × Int)) (t55 : List (Int × Int)) (A50 : Option Addr) (c51 : Nat) (A53 : Option Addr) (c54 : Nat) (R : Ending → World → Prop) (x : Lp Unit Unit) (hk0 : ∀ (w1 : World), x = Lp.go () → Holds M0 w0 w1 [sl (Rp.pair (Rp.int .u16) (Rp.int .u8)) (.slice A50 t52.length c51) t52, sl (Rp.pair (Rp.int .u16) (Rp.int .u8)) (.slice A53 t55.length c54) t55] → RunsI F6 [.c 53] [(1, .int .u16 p1), (8, .slice A50 t52.length c51), (9, .slice A53 t55.length c54)] w1 R) (hk1 : ∀ (w1 : World), x = Lp.ret () → Holds M0 w0 w1 [] → R (.returned (.bool false)) w1) :
  ∀ (k : Nat) (t56 : Int) (w : World), charabanclaw14_CellsKeep_6.l0 K p0 p1 p2 t52 t55 k t56 = some x → Holds M0 w0 w [sl (Rp.pair (Rp.int .u16) (Rp.int .u8)) (.slice A50 t52.length c51) t52, sl (Rp.pair (Rp.int .u16) (Rp.int .u8)) (.slice A53 t55.length c54) t55] → RunsI F6 [.c 37, .lp 37, .blk 0, .c 53] [(1, .int .u16 p1), (8, .slice A50 t52.length c51), (9, .slice A53 t55.length c54), (10, .int .i64 t56)] w R := by
 intro k
 induction k with
 | zero => intro t56 w h hH; exact absurd h (by simp [charabanclaw14_CellsKeep_6.l0])
 | succ k ih =>
  intro t56 w h hH
  rw [charabanclaw14_CellsKeep_6.l0.eq_2] at h
  refine RunsI.g 1 [.c 38, .c 43, .lp 37, .blk 0, .c 53] ?_
  refine RunsI.g 1 [.c 39, .c 40, .c 43, .lp 37, .blk 0, .c 53] ?_
  refine RunsI.r ?_
  refine RegI.p 4 [(1, .int .u16 p1), (8, .slice A50 t52.length c51), (9, .slice A53 t55.length c54), (10, .int .i64 t56), (41, .bool (decide (t56 < (t52.length : Int))))] ?_
  refine RegI.d ?_
  rcases of_cond h with ⟨hc57, h⟩ | ⟨hc57, h⟩
  ·skip
   refine RunsI.f 41 true hc57 ?_
   refine RunsI.b true 41 ?_
   refine RunsI.g 1 [.c 43, .lp 37, .blk 0, .c 53] ?_
   refine RunsI.g 3 [.c 46, .c 47, .blk 1, .c 52, .lp 37, .blk 0, .c 53] ?_
   refine RunsI.any 22 (by kernel_rfl) (by kernel_rfl) (by kernel_rfl) (Kp ([] : List Nat) (World.drew w)) ?_
   have h59 := hH.drew
   generalize World.drew w = w58 at h59 ⊢
   have hS60 := Kp.refl ([] : List Nat) w58
   refine AnyE.pure 0 44 (.slice A50 t52.length c51) (by kernel_rfl) hS60 (fun _ => by kernel_rfl) ?_
   refine AnyE.pure 1 45 (.int .i64 t56) (by kernel_rfl) hS60 (fun _ => by kernel_rfl) ?_
   obtain ⟨hc62, h⟩ := of_cond0 h
   refine AnyE.idxSl 2 46 0 22 t56 h59 (by kernel_rfl) hS60 rfl (by kernel_rfl) (by kernel_rfl) hc62 ?_
   intro b63 o64 cs65 hk66 h67
   obtain ⟨_, _, rfl, rfl, rfl⟩ := hk66
   refine AnyE.pure 3 47 (.pointer (some ⟨b63, o64, none⟩)) (by kernel_rfl) hS60 (fun _ => by kernel_rfl) ?_
   refine AnyE.loadCel 4 48 2 23 b63 o64 0 (.int .u16 ((rdD t52 t56).1)) [] h67 rfl (by kernel_rfl) hS60 rfl rfl (by kernel_rfl) (by kernel_rfl) ?_
   refine AnyE.pure 5 49 (.int .u16 p1) (by kernel_rfl) hS60 (fun _ => by kernel_rfl) ?_
   refine AnyE.pure 6 50 (.bool (((rdD t52 t56).1) != p1)) (by kernel_rfl) hS60 (fun _ => by kernel_rfl) ?_
   refine AnyE.pure 7 51 (.bool (((rdD t52 t56).1) != p1)) (by kernel_rfl) hS60 (fun _ => by kernel_rfl) ?_
   obtain ⟨j90, hJ91, h⟩ := of_let h
   have hj92 : ∀ (t87 : Bool) (w89 : World), j90 t87 = some x → Holds M0 w0 w89 [sl (Rp.pair (Rp.int .u16) (Rp.int .u8)) (.slice A50 t52.length c51) t52, sl (Rp.pair (Rp.int .u16) (Rp.int .u8)) (.slice A53 t55.length c54) t55] → RunsI F6 [.c 47, .blk 1, .c 52, .lp 37, .blk 0, .c 53] [(1, .int .u16 p1), (8, .slice A50 t52.length c51), (9, .slice A53 t55.length c54), (10, .int .i64 t56), (65, .bool t87)] w89 R := by
    intro t87 w89 h h88
    rw [hJ91] at h
    clear hJ91
    dsimp only at h
    rcases of_cond h with ⟨hc93, h⟩ | ⟨hc93, h⟩
    ·skip
     refine RunsI.f 65 true hc93 ?_
     refine RunsI.b true 48 ?_
     refine RunsI.g 1 [.c 49, .c 50, .blk 1, .c 52, .lp 37, .blk 0, .c 53] ?_
     refine RunsI.r ?_
     refine RegI.p 1 [(6, .bool false)] ?_
     refine RegI.d ?_
     refine RunsI.t (.bool false) ?_
     exact hk1 w89 (Option.some.inj h).symm (h88.pick [] (by decide))
    ·skip
     refine RunsI.f 65 false hc93 ?_
     refine RunsI.b false 51 ?_
     refine RunsI.g 1 [.blk 1, .c 52, .lp 37, .blk 0, .c 53] ?_
     refine RunsI.g 1 [.c 52, .lp 37, .blk 0, .c 53] ?_
     refine RunsI.r ?_
     refine RegI.p 3 [(1, .int .u16 p1), (8, .slice A50 t52.length c51), (9, .slice A53 t55.length c54), (10, .int .i64 (IntKind.wrap .i64 (t56 + 1)))] ?_
     refine RegI.d ?_
     refine RunsI.g 1 [.c 37, .lp 37, .blk 0, .c 53] ?_
     refine RunsI.l [1, 8, 9, 10] [(1, .int .u16 p1), (8, .slice A50 t52.length c51), (9, .slice A53 t55.length c54), (10, .int .i64 (IntKind.wrap .i64 (t56 + 1)))] ?_
     exact ih (IntKind.wrap .i64 (t56 + 1)) w89 h (h88.pick [0, 1] (by decide))
   clear hJ91
   rcases of_cond h with ⟨hc68, h⟩ | ⟨hc68, h⟩
   ·skip
    refine AnyE.fix 51 true hc68 (by kernel_rfl) (by kernel_rfl) ?_
    refine AnyE.pure 8 52 (.slice A53 t55.length c54) (by kernel_rfl) hS60 (fun _ => by kernel_rfl) ?_
    refine AnyE.pure 9 53 (.slice A50 t52.length c51) (by kernel_rfl) hS60 (fun _ => by kernel_rfl) ?_
    refine AnyE.pure 10 54 (.int .i64 t56) (by kernel_rfl) hS60 (fun _ => by kernel_rfl) ?_
    refine AnyE.idxSl 11 55 0 22 t56 h67 (by kernel_rfl) hS60 rfl (by kernel_rfl) (by kernel_rfl) hc62 ?_
    intro b69 o70 cs71 hk72 h73
    obtain ⟨_, _, rfl, rfl, rfl⟩ := hk72
    refine AnyE.pure 12 56 (.pointer (some ⟨b69, o70, none⟩)) (by kernel_rfl) hS60 (fun _ => by kernel_rfl) ?_
    refine AnyE.loadCel 13 57 3 23 b69 o70 0 (.int .u16 ((rdD t52 t56).1)) [] h73 rfl (by kernel_rfl) hS60 rfl rfl (by kernel_rfl) (by kernel_rfl) ?_
    obtain ⟨t75, hg74, h⟩ := of_bind h
    refine AnyE.call 14 58 (.int .u8 t75) 13 #[.slice A53 t55.length c54, .int .u16 ((rdD t52 t56).1)] (by kernel_rfl) hS60 (fun _ => by kernel_rfl) (fun w hk => cells_Get_13_ok K (fun _ => False) w A53 c54 t55 ((rdD t52 t56).1) (fun _ hf => hf.elim) (Sl.mono (h73.atI [] rfl hk 1 rfl rfl) (fun _ _ hf => hf.elim)) hg74) ?_
    refine AnyE.pure 15 59 (.slice A50 t52.length c51) (by kernel_rfl) hS60 (fun _ => by kernel_rfl) ?_
    refine AnyE.pure 16 60 (.int .i64 t56) (by kernel_rfl) hS60 (fun _ => by kernel_rfl) ?_
    refine AnyE.idxSl 17 61 0 22 t56 h73 (by kernel_rfl) hS60 rfl (by kernel_rfl) (by kernel_rfl) hc62 ?_
    intro b76 o77 cs78 hk79 h80
    obtain ⟨_, _, rfl, rfl, rfl⟩ := hk79
    refine AnyE.pure 18 62 (.pointer (some ⟨b76, o77 + 1, none⟩)) (by kernel_rfl) hS60 (fun _ => by kernel_rfl) ?_
    refine AnyE.loadCel 19 63 4 5 b76 o77 1 (.int .u8 ((rdD t52 t56).2)) [] h80 rfl (by kernel_rfl) hS60 rfl rfl (by kernel_rfl) (by kernel_rfl) ?_
    refine AnyE.pure 20 64 (.bool (t75 != ((rdD t52 t56).2))) (by kernel_rfl) hS60 (fun _ => by kernel_rfl) ?_
    refine AnyE.pure 21 65 (.bool (t75 != ((rdD t52 t56).2))) (by kernel_rfl) hS60 (fun _ => by kernel_rfl) ?_
    refine AnyE.done (by kernel_rfl) (fun w81 hu82 => ?_)
    have h83 := h80.call hu82
    refine RunsI.l [1, 8, 9, 10, 65] [(1, .int .u16 p1), (8, .slice A50 t52.length c51), (9, .slice A53 t55.length c54), (10, .int .i64 t56), (65, .bool (t75 != ((rdD t52 t56).2)))] ?_
    refine RunsI.l [1, 8, 9, 10, 65] [(1, .int .u16 p1), (8, .slice A50 t52.length c51), (9, .slice A53 t55.length c54), (10, .int .i64 t56), (65, .bool (t75 != ((rdD t52 t56).2)))] ?_
    exact hj92 (t75 != ((rdD t52 t56).2)) w81 h (h83.pick [0, 1] (by decide))
   ·skip
    refine AnyE.fix 51 false hc68 (by kernel_rfl) (by kernel_rfl) ?_
    refine AnyE.no 8 52 (by kernel_rfl) hS60 ?_
    refine AnyE.no 9 53 (by kernel_rfl) hS60 ?_
    refine AnyE.no 10 54 (by kernel_rfl) hS60 ?_
    refine AnyE.no 11 55 (by kernel_rfl) hS60 ?_
    refine AnyE.no 12 56 (by kernel_rfl) hS60 ?_
    refine AnyE.no 13 57 (by kernel_rfl) hS60 ?_
    refine AnyE.no 14 58 (by kernel_rfl) hS60 ?_
    refine AnyE.no 15 59 (by kernel_rfl) hS60 ?_
    refine AnyE.no 16 60 (by kernel_rfl) hS60 ?_
    refine AnyE.no 17 61 (by kernel_rfl) hS60 ?_
    refine AnyE.no 18 62 (by kernel_rfl) hS60 ?_
    refine AnyE.no 19 63 (by kernel_rfl) hS60 ?_
    refine AnyE.no 20 64 (by kernel_rfl) hS60 ?_
    refine AnyE.pure 21 65 (.bool false) (by kernel_rfl) hS60 (fun _ => by kernel_rfl) ?_
    refine AnyE.done (by kernel_rfl) (fun w84 hu85 => ?_)
    have h86 := h67.call hu85
    refine RunsI.l [1, 8, 9, 10, 65] [(1, .int .u16 p1), (8, .slice A50 t52.length c51), (9, .slice A53 t55.length c54), (10, .int .i64 t56), (65, .bool false)] ?_
    refine RunsI.l [1, 8, 9, 10, 65] [(1, .int .u16 p1), (8, .slice A50 t52.length c51), (9, .slice A53 t55.length c54), (10, .int .i64 t56), (65, .bool false)] ?_
    exact hj92 false w84 h (h86.pick [0, 1] (by decide))
  ·skip
   refine RunsI.f 41 false hc57 ?_
   refine RunsI.b false 42 ?_
   refine RunsI.g 1 [.c 53] ?_
   refine RunsI.l [1, 8, 9] [(1, .int .u16 p1), (8, .slice A50 t52.length c51), (9, .slice A53 t55.length c54)] ?_
   exact hk0 w (Option.some.inj h).symm (hH.pick [0, 1] (by decide))
def charabanclaw14_CellsKeep_6.f (K : Nat) (p0 : List (Int × Int)) (p1 : Int) (p2 : Int) : Option Bool := (charabanclaw14_awake_7.f K).bind fun t5 => cond (!t5) (some false) (cond (decide ((p0.length : Int) > 60)) (some true) ((cells_Make_11.f K p0).bind fun t12 => (cells_Put_15.f K t12 p1 p2).bind fun t21 => (cells_Get_13.f K t21 p1).bind fun t30 => Let (fun (t43 : Bool) => cond t43 (some false) ((charabanclaw14_CellsKeep_6.l0 K p0 p1 p2 t12 t21 K 0).bind (fun x94 => Lp.elim x94 (fun _ => some false) (fun _ => (cells_Get_13.f K t12 p1).bind fun t104 => (cells_Put_15.f K t21 p1 t104).bind fun t109 => (charabancref14_Same_10.f K t109 t12).bind fun t118 => cond t118 ((cells_Get_13.f K t21 (IntKind.wrap .u16 (p1 + 1))).bind fun t124 => (cells_Get_13.f K t12 (IntKind.wrap .u16 (p1 + 1))).bind fun t129 => cond (t124 == t129) ((cells_Make_11.f K t12).bind fun t135 => (charabancref14_Same_10.f K t135 t12).bind fun t144 => some t144) (some false)) (some false))))) (fun j46 => cond (t30 != p2) (j46 true) ((cells_Check_8.f K t21).bind fun t36 => cond (t36 != 0) (j46 true) ((cells_Check_8.f K t12).bind fun t42 => j46 (t42 != 0))))))
set_option maxRecDepth 100000 in
theorem charabanclaw14_CellsKeep_6_ok (K : Nat) (M0 : Nat → Prop) (w0 : World) (pA0 : Option Addr) (pc0 : Nat) (p0 : List (Int × Int)) (p1 : Int) (p2 : Int) (ho : ∀ b, M0 b → b < w0.heap.size) (hs0 : Sl (Rp.pair (Rp.int .u16) (Rp.int .u8)) w0 M0 (.slice pA0 p0.length pc0) p0) {r : Bool} (h : charabanclaw14_CellsKeep_6.f K p0 p1 p2 = some r) :
  Calls Try.prog 6 #[.slice pA0 p0.length pc0, .int .u16 p1, .int .u8 p2] w0 (charabanclaw14_CellsKeep_6.post M0 w0 r) := by
 unfold charabanclaw14_CellsKeep_6.f at h
 have h0 : Holds M0 w0 w0 [] := Holds.start ho
 have h00 := h0.addSl (Rp.pair (Rp.int .u16) (Rp.int .u8)) (.slice pA0 p0.length pc0) p0 (hs0.mono (fun _ _ hm => hm.elim id (fun hm => absurd hm (by simp [mines, sl]))))
 have h0 : Holds M0 w0 w0 [sl (Rp.pair (Rp.int .u16) (Rp.int .u8)) (.slice pA0 p0.length pc0) p0] := h00
 refine calls_of F6 rfl [.slice pA0 p0.length pc0, .int .u16 p1, .int .u8 p2] (by kernel_rfl) ?_
 refine RunsI.g 1 [.c 1, .c 2] ?_
 refine RunsI.r ?_
 refine RegI.p 1 [(0, .slice pA0 p0.length pc0), (1, .int .u16 p1), (2, .int .u8 p2)] ?_
 refine RegI.d ?_
 refine RunsI.g 1 [.c 3, .c 4] ?_
 refine RunsI.r ?_
 obtain ⟨t5, hg4, h⟩ := of_bind h
 refine RegI.o (OpE.call 11 (by kernel_rfl) 7 #[] (by kernel_rfl) ((charabanclaw14_awake_7_ok K _ w0  h0.old' hg4).mono ?_))
 rintro _ w1 ⟨rfl, hb2⟩
 refine ⟨_, rfl, ?_⟩
 have h3 := h0.call hb2
 refine RegI.p 1 [(0, .slice pA0 p0.length pc0), (1, .int .u16 p1), (2, .int .u8 p2), (7, .bool t5)] ?_
 refine RegI.d ?_
 refine RunsI.g 2 [.c 6, .c 7, .c 12] ?_
 refine RunsI.r ?_
 refine RegI.p 2 [(0, .slice pA0 p0.length pc0), (1, .int .u16 p1), (2, .int .u8 p2), (13, .bool (!t5))] ?_
 refine RegI.d ?_
 rcases of_cond h with ⟨hc6, h⟩ | ⟨hc6, h⟩
 ·skip
  refine RunsI.f 13 true hc6 ?_
  refine RunsI.b true 8 ?_
  refine RunsI.g 1 [.c 9, .c 10, .c 12] ?_
  refine RunsI.r ?_
  refine RegI.p 1 [(6, .bool false)] ?_
  refine RegI.d ?_
  refine RunsI.t (.bool false) ?_
  obtain rfl := Option.some.inj h
  exact ⟨rfl, h3.below⟩
 ·skip
  refine RunsI.f 13 false hc6 ?_
  refine RunsI.b false 11 ?_
  refine RunsI.g 1 [.c 12] ?_
  refine RunsI.g 2 [.c 14, .c 15, .c 20] ?_
  refine RunsI.r ?_
  refine RegI.p 3 [(0, .slice pA0 p0.length pc0), (1, .int .u16 p1), (2, .int .u8 p2), (16, .bool (decide ((p0.length : Int) > 60)))] ?_
  refine RegI.d ?_
  rcases of_cond h with ⟨hc7, h⟩ | ⟨hc7, h⟩
  ·skip
   refine RunsI.f 16 true hc7 ?_
   refine RunsI.b true 16 ?_
   refine RunsI.g 1 [.c 17, .c 18, .c 20] ?_
   refine RunsI.r ?_
   refine RegI.p 1 [(6, .bool true)] ?_
   refine RegI.d ?_
   refine RunsI.t (.bool true) ?_
   obtain rfl := Option.some.inj h
   exact ⟨rfl, h3.below⟩
  ·skip
   refine RunsI.f 16 false hc7 ?_
   refine RunsI.b false 19 ?_
   refine RunsI.g 1 [.c 20] ?_
   refine RunsI.g 1 [.c 21, .c 22] ?_
   refine RunsI.r ?_
   refine RegI.p 1 [(1, .int .u16 p1), (2, .int .u8 p2), (17, .slice pA0 p0.length pc0)] ?_
   obtain ⟨t12, hg11, h⟩ := of_bind h
   refine RegI.o (OpE.call 18 (by kernel_rfl) 11 #[.slice pA0 p0.length pc0] (by kernel_rfl) ((cells_Make_11_ok K _ w1  pA0 pc0 p0 h3.old' (h3.get 0 rfl) hg11).mono ?_))
   rintro _ w8 ⟨A13, c14, rfl, hr16⟩
   refine ⟨_, rfl, ?_⟩
   have hb9 := hr16.below
   have h10 := h3.join hr16
   refine RegI.p 1 [(1, .int .u16 p1), (2, .int .u8 p2), (8, .slice A13 t12.length c14)] ?_
   refine RegI.d ?_
   refine RunsI.g 1 [.c 23, .c 24] ?_
   refine RunsI.r ?_
   refine RegI.p 3 [(1, .int .u16 p1), (2, .int .u8 p2), (8, .slice A13 t12.length c14), (19, .slice A13 t12.length c14), (20, .int .u16 p1), (21, .int .u8 p2)] ?_
   obtain ⟨t21, hg20, h⟩ := of_bind h
   refine RegI.o (OpE.call 22 (by kernel_rfl) 15 #[.slice A13 t12.length c14, .int .u16 p1, .int .u8 p2] (by kernel_rfl) ((cells_Put_15_ok K _ w8  A13 c14 t12 p1 p2 h10.old' (h10.get 1 rfl) hg20).mono ?_))
   rintro _ w17 ⟨A22, c23, rfl, hr25⟩
   refine ⟨_, rfl, ?_⟩
   have hb18 := hr25.below
   have h19 := h10.join hr25
   refine RegI.p 1 [(1, .int .u16 p1), (2, .int .u8 p2), (8, .slice A13 t12.length c14), (9, .slice A22 t21.length c23)] ?_
   refine RegI.d ?_
   refine RunsI.g 2 [.c 26, .c 27, .c 32] ?_
   refine RunsI.r ?_
   refine RegI.p 2 [(1, .int .u16 p1), (2, .int .u8 p2), (8, .slice A13 t12.length c14), (9, .slice A22 t21.length c23), (23, .slice A22 t21.length c23), (24, .int .u16 p1)] ?_
   obtain ⟨t30, hg29, h⟩ := of_bind h
   refine RegI.o (OpE.call 25 (by kernel_rfl) 13 #[.slice A22 t21.length c23, .int .u16 p1] (by kernel_rfl) ((cells_Get_13_ok K _ w17  A22 c23 t21 p1 h19.old' (h19.get 2 rfl) hg29).mono ?_))
   rintro _ w26 ⟨rfl, hb27⟩
   refine ⟨_, rfl, ?_⟩
   have h28 := h19.call hb27
   refine RegI.p 3 [(1, .int .u16 p1), (8, .slice A13 t12.length c14), (9, .slice A22 t21.length c23), (28, .bool (t30 != p2))] ?_
   obtain ⟨j46, hJ47, h⟩ := of_let h
   have hj48 : ∀ (t43 : Bool) (w45 : World), j46 t43 = some r → Holds M0 w0 w45 [sl (Rp.pair (Rp.int .u16) (Rp.int .u8)) (.slice A13 t12.length c14) t12, sl (Rp.pair (Rp.int .u16) (Rp.int .u8)) (.slice A22 t21.length c23) t21] → RegI F6 26 [.c 27, .c 32] 15 [(1, .int .u16 p1), (8, .slice A13 t12.length c14), (9, .slice A22 t21.length c23), (37, .bool t43)] w45 (charabanclaw14_CellsKeep_6.post M0 w0 r) := by
    intro t43 w45 h h44
    rw [hJ47] at h
    clear hJ47
    dsimp only at h
    refine RegI.d ?_
    rcases of_cond h with ⟨hc49, h⟩ | ⟨hc49, h⟩
    ·skip
     refine RunsI.f 37 true hc49 ?_
     refine RunsI.b true 28 ?_
     refine RunsI.g 1 [.c 29, .c 30, .c 32] ?_
     refine RunsI.r ?_
     refine RegI.p 1 [(6, .bool false)] ?_
     refine RegI.d ?_
     refine RunsI.t (.bool false) ?_
     obtain rfl := Option.some.inj h
     exact ⟨rfl, h44.below⟩
    ·skip
     refine RunsI.f 37 false hc49 ?_
     refine RunsI.b false 31 ?_
     refine RunsI.g 1 [.c 32] ?_
     refine RunsI.g 2 [.c 34, .c 35, .c 53] ?_
     refine RunsI.r ?_
     refine RegI.p 1 [(1, .int .u16 p1), (8, .slice A13 t12.length c14), (9, .slice A22 t21.length c23), (10, .int .i64 0)] ?_
     refine RegI.d ?_
     refine RunsI.g 2 [.c 37, .lp 37, .blk 0, .c 53] ?_
     obtain ⟨x94, hx95, h⟩ := of_bind h
     refine RunsI.l [1, 8, 9, 10] [(1, .int .u16 p1), (8, .slice A13 t12.length c14), (9, .slice A22 t21.length c23), (10, .int .i64 0)] ?_
     refine charabanclaw14_CellsKeep_6.l0_ok K M0 w0 pA0 pc0 p0 p1 p2 t12 t21 A13 c14 A22 c23 _ x94 ?_ ?_ K 0 w45 hx95 (h44.pick [0, 1] (by decide))
     ·intro w97 hq145 h96
      (try rw [hq145] at h)
      dsimp only [Lp.elim] at h
      refine RunsI.g 1 [.c 54, .c 55] ?_
      refine RunsI.r ?_
      refine RegI.p 4 [(1, .int .u16 p1), (8, .slice A13 t12.length c14), (9, .slice A22 t21.length c23), (66, .slice A22 t21.length c23), (67, .int .u16 p1), (68, .slice A13 t12.length c14), (69, .int .u16 p1)] ?_
      obtain ⟨t104, hg103, h⟩ := of_bind h
      refine RegI.o (OpE.call 70 (by kernel_rfl) 13 #[.slice A13 t12.length c14, .int .u16 p1] (by kernel_rfl) ((cells_Get_13_ok K _ w97  A13 c14 t12 p1 h96.old' (h96.get 0 rfl) hg103).mono ?_))
      rintro _ w100 ⟨rfl, hb101⟩
      refine ⟨_, rfl, ?_⟩
      have h102 := h96.call hb101
      obtain ⟨t109, hg108, h⟩ := of_bind h
      refine RegI.o (OpE.call 71 (by kernel_rfl) 15 #[.slice A22 t21.length c23, .int .u16 p1, .int .u8 t104] (by kernel_rfl) ((cells_Put_15_ok K _ w100  A22 c23 t21 p1 t104 h102.old' (h102.get 1 rfl) hg108).mono ?_))
      rintro _ w105 ⟨A110, c111, rfl, hr113⟩
      refine ⟨_, rfl, ?_⟩
      have hb106 := hr113.below
      have h107 := h102.join hr113
      refine RegI.p 1 [(1, .int .u16 p1), (8, .slice A13 t12.length c14), (9, .slice A22 t21.length c23), (71, .slice A110 t109.length c111), (72, .slice A13 t12.length c14)] ?_
      obtain ⟨t118, hg117, h⟩ := of_bind h
      refine RegI.o (OpE.call 73 (by kernel_rfl) 10 #[.slice A110 t109.length c111, .slice A13 t12.length c14] (by kernel_rfl) ((charabancref14_Same_10_ok K _ w105  A110 c111 A13 c14 t109 t12 h107.old' (h107.get 2 rfl) (h107.get 0 rfl) hg117).mono ?_))
      rintro _ w114 ⟨rfl, hb115⟩
      refine ⟨_, rfl, ?_⟩
      have h116 := h107.call hb115
      refine RegI.p 1 [(1, .int .u16 p1), (8, .slice A13 t12.length c14), (9, .slice A22 t21.length c23), (74, .bool t118)] ?_
      rcases of_cond h with ⟨hc119, h⟩ | ⟨hc119, h⟩
      ·skip
       refine RegI.f 74 true hc119 ?_
       refine RegI.p 3 [(1, .int .u16 p1), (8, .slice A13 t12.length c14), (74, .bool true), (75, .slice A22 t21.length c23), (77, .int .u16 (IntKind.wrap .u16 (p1 + 1)))] ?_
       obtain ⟨t124, hg123, h⟩ := of_bind h
       refine RegI.o (OpE.call 78 (by kernel_rfl) 13 #[.slice A22 t21.length c23, .int .u16 (IntKind.wrap .u16 (p1 + 1))] (by kernel_rfl) ((cells_Get_13_ok K _ w114  A22 c23 t21 (IntKind.wrap .u16 (p1 + 1)) h116.old' (h116.get 1 rfl) hg123).mono ?_))
       rintro _ w120 ⟨rfl, hb121⟩
       refine ⟨_, rfl, ?_⟩
       have h122 := h116.call hb121
       refine RegI.p 3 [(8, .slice A13 t12.length c14), (74, .bool true), (78, .int .u8 t124), (79, .slice A13 t12.length c14), (81, .int .u16 (IntKind.wrap .u16 (p1 + 1)))] ?_
       obtain ⟨t129, hg128, h⟩ := of_bind h
       refine RegI.o (OpE.call 82 (by kernel_rfl) 13 #[.slice A13 t12.length c14, .int .u16 (IntKind.wrap .u16 (p1 + 1))] (by kernel_rfl) ((cells_Get_13_ok K _ w120  A13 c14 t12 (IntKind.wrap .u16 (p1 + 1)) h122.old' (h122.get 0 rfl) hg128).mono ?_))
       rintro _ w125 ⟨rfl, hb126⟩
       refine ⟨_, rfl, ?_⟩
       have h127 := h122.call hb126
       refine RegI.p 3 [(8, .slice A13 t12.length c14), (85, .bool (t124 == t129))] ?_
       rcases of_cond h with ⟨hc130, h⟩ | ⟨hc130, h⟩
       ·skip
        refine RegI.f 85 true hc130 ?_
        refine RegI.p 1 [(8, .slice A13 t12.length c14), (85, .bool true), (86, .slice A13 t12.length c14)] ?_
        obtain ⟨t135, hg134, h⟩ := of_bind h
        refine RegI.o (OpE.call 87 (by kernel_rfl) 11 #[.slice A13 t12.length c14] (by kernel_rfl) ((cells_Make_11_ok K _ w125  A13 c14 t12 h127.old' (h127.get 0 rfl) hg134).mono ?_))
        rintro _ w131 ⟨A136, c137, rfl, hr139⟩
        refine ⟨_, rfl, ?_⟩
        have hb132 := hr139.below
        have h133 := h127.join hr139
        refine RegI.p 1 [(85, .bool true), (87, .slice A136 t135.length c137), (88, .slice A13 t12.length c14)] ?_
        obtain ⟨t144, hg143, h⟩ := of_bind h
        refine RegI.o (OpE.call 89 (by kernel_rfl) 10 #[.slice A136 t135.length c137, .slice A13 t12.length c14] (by kernel_rfl) ((charabancref14_Same_10_ok K _ w131  A136 c137 A13 c14 t135 t12 h133.old' (h133.get 3 rfl) (h133.get 0 rfl) hg143).mono ?_))
        rintro _ w140 ⟨rfl, hb141⟩
        refine ⟨_, rfl, ?_⟩
        have h142 := h133.call hb141
        refine RegI.p 2 [(6, .bool t144)] ?_
        refine RegI.d ?_
        refine RunsI.t (.bool t144) ?_
        obtain rfl := Option.some.inj h
        exact ⟨rfl, h142.below⟩
       ·skip
        refine RegI.f 85 false hc130 ?_
        refine RegI.p 6 [(6, .bool false)] ?_
        refine RegI.d ?_
        refine RunsI.t (.bool false) ?_
        obtain rfl := Option.some.inj h
        exact ⟨rfl, h127.below⟩
      ·skip
       refine RegI.f 74 false hc119 ?_
       refine RegI.p 17 [(6, .bool false)] ?_
       refine RegI.d ?_
       refine RunsI.t (.bool false) ?_
       obtain rfl := Option.some.inj h
       exact ⟨rfl, h116.below⟩
     ·intro w99 hq146 h98
      (try rw [hq146] at h)
      dsimp only [Lp.elim] at h
      obtain rfl := Option.some.inj h
      exact ⟨rfl, h98.below⟩
   clear hJ47
   rcases of_cond h with ⟨hc31, h⟩ | ⟨hc31, h⟩
   ·skip
    refine RegI.f 28 true hc31 ?_
    refine RegI.p 9 [(1, .int .u16 p1), (8, .slice A13 t12.length c14), (9, .slice A22 t21.length c23), (37, .bool true)] ?_
    refine RegI.l [1, 8, 9, 37] [(1, .int .u16 p1), (8, .slice A13 t12.length c14), (9, .slice A22 t21.length c23), (37, .bool true)] ?_
    exact hj48 true w26 h (h28.pick [1, 2] (by decide))
   ·skip
    refine RegI.f 28 false hc31 ?_
    refine RegI.p 1 [(1, .int .u16 p1), (8, .slice A13 t12.length c14), (9, .slice A22 t21.length c23), (28, .bool false), (29, .slice A22 t21.length c23)] ?_
    obtain ⟨t36, hg35, h⟩ := of_bind h
    refine RegI.o (OpE.call 30 (by kernel_rfl) 8 #[.slice A22 t21.length c23] (by kernel_rfl) ((cells_Check_8_ok K _ w26  A22 c23 t21 h28.old' (h28.get 2 rfl) hg35).mono ?_))
    rintro _ w32 ⟨rfl, hb33⟩
    refine ⟨_, rfl, ?_⟩
    have h34 := h28.call hb33
    refine RegI.p 3 [(1, .int .u16 p1), (8, .slice A13 t12.length c14), (9, .slice A22 t21.length c23), (33, .bool (t36 != 0))] ?_
    rcases of_cond h with ⟨hc37, h⟩ | ⟨hc37, h⟩
    ·skip
     refine RegI.f 33 true hc37 ?_
     refine RegI.p 4 [(1, .int .u16 p1), (8, .slice A13 t12.length c14), (9, .slice A22 t21.length c23), (37, .bool true)] ?_
     refine RegI.l [1, 8, 9, 37] [(1, .int .u16 p1), (8, .slice A13 t12.length c14), (9, .slice A22 t21.length c23), (37, .bool true)] ?_
     exact hj48 true w32 h (h34.pick [1, 2] (by decide))
    ·skip
     refine RegI.f 33 false hc37 ?_
     refine RegI.p 1 [(1, .int .u16 p1), (8, .slice A13 t12.length c14), (9, .slice A22 t21.length c23), (33, .bool false), (34, .slice A13 t12.length c14)] ?_
     obtain ⟨t42, hg41, h⟩ := of_bind h
     refine RegI.o (OpE.call 35 (by kernel_rfl) 8 #[.slice A13 t12.length c14] (by kernel_rfl) ((cells_Check_8_ok K _ w32  A13 c14 t12 h34.old' (h34.get 1 rfl) hg41).mono ?_))
     rintro _ w38 ⟨rfl, hb39⟩
     refine ⟨_, rfl, ?_⟩
     have h40 := h34.call hb39
     refine RegI.p 2 [(1, .int .u16 p1), (8, .slice A13 t12.length c14), (9, .slice A22 t21.length c23), (37, .bool (t42 != 0))] ?_
     refine RegI.l [1, 8, 9, 37] [(1, .int .u16 p1), (8, .slice A13 t12.length c14), (9, .slice A22 t21.length c23), (37, .bool (t42 != 0))] ?_
     exact hj48 (t42 != 0) w38 h (h40.pick [1, 2] (by decide))
end
end Go.Proofs.Ytbcepghanbkncaa.Cel
