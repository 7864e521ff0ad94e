/- Functions of the program as plain Lean functions, each with the proof that the call comes to it; written by wip/eng.py. -/
import Derived.Test.YtilgjfckgkkfmaaDoorTex2
set_option linter.unusedVariables false
set_option linter.unusedSimpArgs false
set_option maxHeartbeats 4000000
namespace Go.Proofs.YtilgjfckgkkfmaaDoor.Tex
open Go.RowKit Go.Eng
/-! ### charabanc/decode.Next (function 133) -/
section
def decode_Next_133.post (M0 : Nat → Prop) (w0 : World) (r : Int × Int × Int × Int × Int × Int × Bool) : Ending → World → Prop := fun e w => e = .returned (.tuple #[.agg #[.int .i64 r.1, .int .u8 r.2.1, .int .u8 r.2.2.1, .int .u16 r.2.2.2.1, .int .i64 r.2.2.2.2.1, .int .i64 r.2.2.2.2.2.1], .bool r.2.2.2.2.2.2]) ∧ Below w0.heap.size w0 w
def decode_Next_133.l0 (K : Nat) (p0 : List Int) : Nat → (List Int) → Int → Bool → Int → Int → Option (Int × Int × Int × (List Int) × Int × Bool)
 | 0, _, _, _, _, _ => none
 | k + 1, t20, t21, t22, t23, t24 => Let (fun (yj67 : (List Int) × Bool × Int) => Let (fun (t71 : Bool) => cond t71 (some (t23, yj67.2.2, (if (IntKind.wrap .i64 (t24 - 1)) > 0 then (IntKind.wrap .i64 (t24 - 1)) else 0), yj67.1, (IntKind.wrap .i64 (t21 + 1)), yj67.2.1)) (decode_Next_133.l0 K p0 k yj67.1 (IntKind.wrap .i64 (t21 + 1)) yj67.2.1 yj67.2.2 (IntKind.wrap .i64 (t24 + 1)))) (fun j74 => cond (yj67.2.2 != 221) (j74 (yj67.2.2 != 253)) (j74 false))) (fun j67 => Let (fun (yj47 : (List Int) × Int × Bool) => cond t22 (j67 (yj47.1, yj47.2.2, yj47.2.1)) (j67 (yj47.1, false, yj47.2.1))) (fun j47 => cond ((t20.length : Int) == 0) (j47 (t20, 0, false)) (cond (inR 0 t20.length) (cond (cutR 1 (t20.length : Int) t20.length) (j47 ((cutL t20 1 (t20.length : Int)), (rdD t20 0), true)) none) none)))
set_option maxRecDepth 100000 in
theorem decode_Next_133.l0_ok (K : Nat) (M0 : Nat → Prop) (w0 : World) (pA0 : Option Addr) (pc0 : Nat) (p0 : List Int) (b16 : Nat) (b17 : Nat) (b25 : Nat) (R : Ending → World → Prop) (x : Int × Int × Int × (List Int) × Int × Bool) (hk0 : ∀ (t78 : Int) (t79 : Int) (t80 : Int) (t83 : List Int) (t84 : Int) (t85 : Bool) (A81 : Option Addr) (c82 : Nat) (w1 : World), x = (t78, t79, t80, t83, t84, t85) → Holds M0 w0 w1 [box b25 51 [.int .i64 0, .int .u8 0, .int .u8 0, .int .u16 0, .int .i64 0, .int .i64 0], box b16 170 [.func (.func 169) #[] #[.pointer (some ⟨b17, 0, none⟩)], .int .i64 t84, .bool t85], box b17 23 [.slice A81 t83.length c82], sl (Rp.int .u8) (.slice A81 t83.length c82) t83] → R (.returned (.tuple #[.int .u8 t78, .int .u8 t79, .int .i64 t80])) w1) :
  ∀ (k : Nat) (t20 : List Int) (t21 : Int) (t22 : Bool) (t23 : Int) (t24 : Int) (A18 : Option Addr) (c19 : Nat) (w : World), decode_Next_133.l0 K p0 k t20 t21 t22 t23 t24 = some x → Holds M0 w0 w [box b16 170 [.func (.func 169) #[] #[.pointer (some ⟨b17, 0, none⟩)], .int .i64 t21, .bool t22], box b17 23 [.slice A18 t20.length c19], sl (Rp.int .u8) (.slice A18 t20.length c19) t20, box b25 51 [.int .i64 0, .int .u8 0, .int .u8 0, .int .u16 0, .int .i64 0, .int .i64 0]] → RunsI F149 [.c 8, .lp 8, .blk 0] [(0, .pointer (some ⟨b16, 0, none⟩)), (5, .int .u8 t23), (6, .int .i64 t24)] w R := by
 intro k
 induction k with
 | zero => intro t20 t21 t22 t23 t24 A18 c19 w h hH; exact absurd h (by simp [decode_Next_133.l0])
 | succ k ih =>
  intro t20 t21 t22 t23 t24 A18 c19 w h hH
  rw [decode_Next_133.l0.eq_2] at h
  refine RunsI.g 1 [.c 9, .blk 1, .lp 8, .blk 0] ?_
  refine RunsI.g 1 [.c 10, .c 11, .blk 1, .lp 8, .blk 0] ?_
  refine RunsI.r ?_
  refine RegI.p 1 [(0, .pointer (some ⟨b16, 0, none⟩)), (5, .int .u8 t23), (6, .int .i64 t24), (8, .pointer (some ⟨b16, 0, none⟩))] ?_
  refine RegI.enter 9 [0, 5, 6] [(0, .pointer (some ⟨b16, 0, none⟩)), (5, .int .u8 t23), (6, .int .i64 t24)] (by kernel_rfl) (by kernel_rfl) (by kernel_rfl) (by kernel_rfl) F150 150 rfl [.pointer (some ⟨b16, 0, none⟩)] (by kernel_rfl) (by kernel_rfl) ?_
  obtain ⟨j67, hJ68, h⟩ := of_let h
  have hj69 : ∀ (t62 : List Int) (t63 : Bool) (t64 : Int) (A60 : Option Addr) (c61 : Nat) (w66 : World), j67 (t62, t63, t64) = some x → Holds M0 w0 w66 [box b16 170 [.func (.func 169) #[] #[.pointer (some ⟨b17, 0, none⟩)], .int .i64 (IntKind.wrap .i64 (t21 + 1)), .bool t63], box b17 23 [.slice A60 t62.length c61], sl (Rp.int .u8) (.slice A60 t62.length c61) t62, box b25 51 [.int .i64 0, .int .u8 0, .int .u8 0, .int .u16 0, .int .i64 0, .int .i64 0]] → RegI F149 10 [.c 11, .blk 1, .lp 8, .blk 0] 2 [(0, .pointer (some ⟨b16, 0, none⟩)), (5, .int .u8 t23), (6, .int .i64 t24), (9, .int .u8 t64)] w66 R := by
   intro t62 t63 t64 A60 c61 w66 h h65
   rw [hJ68] at h
   clear hJ68
   dsimp only at h
   refine RegI.p 1 [(0, .pointer (some ⟨b16, 0, none⟩)), (5, .int .u8 t23), (6, .int .i64 t24), (7, .int .u8 t64)] ?_
   refine RegI.d ?_
   refine RunsI.g 2 [.c 13, .c 14, .c 19, .blk 1, .lp 8, .blk 0] ?_
   refine RunsI.r ?_
   refine RegI.p 3 [(0, .pointer (some ⟨b16, 0, none⟩)), (5, .int .u8 t23), (6, .int .i64 t24), (7, .int .u8 t64), (12, .bool (t64 != 221))] ?_
   obtain ⟨j74, hJ75, h⟩ := of_let h
   have hj76 : ∀ (t71 : Bool) (w73 : World), j74 t71 = some x → Holds M0 w0 w73 [box b16 170 [.func (.func 169) #[] #[.pointer (some ⟨b17, 0, none⟩)], .int .i64 (IntKind.wrap .i64 (t21 + 1)), .bool t63], box b17 23 [.slice A60 t62.length c61], sl (Rp.int .u8) (.slice A60 t62.length c61) t62, box b25 51 [.int .i64 0, .int .u8 0, .int .u8 0, .int .u16 0, .int .i64 0, .int .i64 0]] → RegI F149 13 [.c 14, .c 19, .blk 1, .lp 8, .blk 0] 6 [(0, .pointer (some ⟨b16, 0, none⟩)), (5, .int .u8 t23), (6, .int .i64 t24), (7, .int .u8 t64), (15, .bool t71)] w73 R := by
    intro t71 w73 h h72
    rw [hJ75] at h
    clear hJ75
    dsimp only at h
    refine RegI.d ?_
    rcases of_cond h with ⟨hc77, h⟩ | ⟨hc77, h⟩
    ·skip
     refine RunsI.f 15 true hc77 ?_
     refine RunsI.b true 15 ?_
     refine RunsI.g 1 [.c 16, .c 17, .c 19, .blk 1, .lp 8, .blk 0] ?_
     refine RunsI.r ?_
     refine RegI.p 8 [(2, .int .u8 t23), (3, .int .u8 t64), (4, .int .i64 (if (IntKind.wrap .i64 (t24 - 1)) > 0 then (IntKind.wrap .i64 (t24 - 1)) else 0))] ?_
     refine RegI.d ?_
     refine RunsI.t (.tuple #[.int .u8 t23, .int .u8 t64, .int .i64 (if (IntKind.wrap .i64 (t24 - 1)) > 0 then (IntKind.wrap .i64 (t24 - 1)) else 0)]) ?_
     exact hk0 t23 t64 (if (IntKind.wrap .i64 (t24 - 1)) > 0 then (IntKind.wrap .i64 (t24 - 1)) else 0) t62 (IntKind.wrap .i64 (t21 + 1)) t63 A60 c61 w73 (Option.some.inj h).symm (h72.pick [3, 0, 1, 2] (by decide))
    ·skip
     refine RunsI.f 15 false hc77 ?_
     refine RunsI.b false 18 ?_
     refine RunsI.g 1 [.c 19, .blk 1, .lp 8, .blk 0] ?_
     refine RunsI.g 1 [.c 20, .c 21, .blk 1, .lp 8, .blk 0] ?_
     refine RunsI.r ?_
     refine RegI.p 2 [(0, .pointer (some ⟨b16, 0, none⟩)), (5, .int .u8 t64), (6, .int .i64 t24)] ?_
     refine RegI.d ?_
     refine RunsI.r ?_
     refine RegI.p 3 [(0, .pointer (some ⟨b16, 0, none⟩)), (5, .int .u8 t64), (6, .int .i64 (IntKind.wrap .i64 (t24 + 1)))] ?_
     refine RegI.d ?_
     refine RunsI.g 2 [.c 8, .lp 8, .blk 0] ?_
     refine RunsI.l [0, 5, 6] [(0, .pointer (some ⟨b16, 0, none⟩)), (5, .int .u8 t64), (6, .int .i64 (IntKind.wrap .i64 (t24 + 1)))] ?_
     exact ih t62 (IntKind.wrap .i64 (t21 + 1)) t63 t64 (IntKind.wrap .i64 (t24 + 1)) A60 c61 w73 h (h72.pick [0, 1, 2, 3] (by decide))
   clear hJ75
   rcases of_cond h with ⟨hc70, h⟩ | ⟨hc70, h⟩
   ·skip
    refine RegI.f 12 true hc70 ?_
    refine RegI.p 3 [(0, .pointer (some ⟨b16, 0, none⟩)), (5, .int .u8 t23), (6, .int .i64 t24), (7, .int .u8 t64), (15, .bool (t64 != 253))] ?_
    refine RegI.l [0, 5, 6, 7, 15] [(0, .pointer (some ⟨b16, 0, none⟩)), (5, .int .u8 t23), (6, .int .i64 t24), (7, .int .u8 t64), (15, .bool (t64 != 253))] ?_
    exact hj76 (t64 != 253) w66 h (h65.pick [0, 1, 2, 3] (by decide))
   ·skip
    refine RegI.f 12 false hc70 ?_
    refine RegI.p 3 [(0, .pointer (some ⟨b16, 0, none⟩)), (5, .int .u8 t23), (6, .int .i64 t24), (7, .int .u8 t64), (15, .bool false)] ?_
    refine RegI.l [0, 5, 6, 7, 15] [(0, .pointer (some ⟨b16, 0, none⟩)), (5, .int .u8 t23), (6, .int .i64 t24), (7, .int .u8 t64), (15, .bool false)] ?_
    exact hj76 false w66 h (h65.pick [0, 1, 2, 3] (by decide))
  clear hJ68
  refine RunsI.g 1 [.c 1, .c 2] ?_
  refine RunsI.r ?_
  refine RegI.p 1 [(0, .pointer (some ⟨b16, 0, none⟩))] ?_
  refine RegI.d ?_
  refine RunsI.g 1 [.c 3, .c 4] ?_
  refine RunsI.r ?_
  refine RegI.p 3 [(0, .pointer (some ⟨b16, 0, none⟩)), (8, .pointer (some ⟨b16, 0, none⟩))] ?_
  refine RegI.o (OpE.loadBox 9 0 167 b16 0 (.func (.func 169) #[] #[.pointer (some ⟨b17, 0, none⟩)]) hH (by kernel_rfl) (by kernel_rfl) rfl (by kernel_rfl) ?_)
  refine RegI.enter 10 [0] [(0, .pointer (some ⟨b16, 0, none⟩))] (by kernel_rfl) (by kernel_rfl) (by kernel_rfl) (by kernel_rfl) F169 169 rfl [.pointer (some ⟨b17, 0, none⟩)] (by kernel_rfl) (by kernel_rfl) ?_
  obtain ⟨j47, hJ48, h⟩ := of_let h
  have hj49 : ∀ (t42 : List Int) (t43 : Int) (t44 : Bool) (A40 : Option Addr) (c41 : Nat) (w46 : World), j47 (t42, t43, t44) = some x → Holds M0 w0 w46 [box b16 170 [.func (.func 169) #[] #[.pointer (some ⟨b17, 0, none⟩)], .int .i64 t21, .bool t22], box b17 23 [.slice A40 t42.length c41], sl (Rp.int .u8) (.slice A40 t42.length c41) t42, box b25 51 [.int .i64 0, .int .u8 0, .int .u8 0, .int .u16 0, .int .i64 0, .int .i64 0]] → RegI F150 3 [.c 4] 5 [(0, .pointer (some ⟨b16, 0, none⟩)), (10, .tuple #[.int .u8 t43, .bool t44])] w46 (cont (fun e' w' => RegI F149 10 [.c 11, .blk 1, .lp 8, .blk 0] 2 e' w' R) 9 [(0, .pointer (some ⟨b16, 0, none⟩)), (5, .int .u8 t23), (6, .int .i64 t24)]) := by
   intro t42 t43 t44 A40 c41 w46 h h45
   rw [hJ48] at h
   clear hJ48
   dsimp only at h
   refine RegI.p 5 [(0, .pointer (some ⟨b16, 0, none⟩)), (3, .int .u8 t43), (4, .bool t44)] ?_
   refine RegI.d ?_
   refine RunsI.g 1 [.c 5, .c 6] ?_
   refine RunsI.r ?_
   refine RegI.p 3 [(0, .pointer (some ⟨b16, 0, none⟩)), (3, .int .u8 t43), (4, .bool t44), (13, .pointer (some ⟨b16, 0, none⟩)), (15, .pointer (some ⟨b16, 1, none⟩))] ?_
   refine RegI.o (OpE.loadBox 16 0 3 b16 1 (.int .i64 t21) h45 (by kernel_rfl) (by kernel_rfl) rfl (by kernel_rfl) ?_)
   refine RegI.p 3 [(0, .pointer (some ⟨b16, 0, none⟩)), (3, .int .u8 t43), (4, .bool t44), (17, .int .i64 (IntKind.wrap .i64 (t21 + 1))), (19, .pointer (some ⟨b16, 1, none⟩))] ?_
   refine RegI.o (OpE.storeBox 0 3 b16 1 (.int .i64 (IntKind.wrap .i64 (t21 + 1))) [.func (.func 169) #[] #[.pointer (some ⟨b17, 0, none⟩)], .int .i64 (IntKind.wrap .i64 (t21 + 1)), .bool t22] h45 (by kernel_rfl) (by kernel_rfl) rfl (by kernel_rfl) (by kernel_rfl) (by kernel_rfl) ?_)
   intro w50 h51 hk52
   refine RegI.d ?_
   refine RunsI.g 1 [.c 7, .c 8] ?_
   refine RunsI.r ?_
   refine RegI.p 4 [(3, .int .u8 t43), (4, .bool t44), (20, .pointer (some ⟨b16, 0, none⟩)), (23, .pointer (some ⟨b16, 2, none⟩))] ?_
   refine RegI.o (OpE.loadBox 24 0 4 b16 2 (.bool t22) h51 (by kernel_rfl) (by kernel_rfl) rfl (by kernel_rfl) ?_)
   refine RegI.p 1 [(3, .int .u8 t43), (4, .bool t44), (20, .pointer (some ⟨b16, 0, none⟩)), (25, .bool t22)] ?_
   rcases of_cond h with ⟨hc53, h⟩ | ⟨hc53, h⟩
   ·skip
    refine RegI.f 25 true hc53 ?_
    refine RegI.p 4 [(3, .int .u8 t43), (27, .bool t44), (29, .pointer (some ⟨b16, 2, none⟩))] ?_
    refine RegI.o (OpE.storeBox 0 4 b16 2 (.bool t44) [.func (.func 169) #[] #[.pointer (some ⟨b17, 0, none⟩)], .int .i64 (IntKind.wrap .i64 (t21 + 1)), .bool t44] h51 (by kernel_rfl) (by kernel_rfl) rfl (by kernel_rfl) (by kernel_rfl) (by kernel_rfl) ?_)
    intro w54 h55 hk56
    refine RegI.d ?_
    refine RunsI.g 1 [.c 9, .c 10] ?_
    refine RunsI.r ?_
    refine RegI.p 2 [(2, .int .u8 t43)] ?_
    refine RegI.d ?_
    refine RunsI.t (.int .u8 t43) ?_
    refine cont_mk ?_
    refine RegI.l [0, 5, 6, 9] [(0, .pointer (some ⟨b16, 0, none⟩)), (5, .int .u8 t23), (6, .int .i64 t24), (9, .int .u8 t43)] ?_
    exact hj69 t42 t44 t43 A40 c41 w54 h (h55.pick [0, 1, 2, 3] (by decide))
   ·skip
    refine RegI.f 25 false hc53 ?_
    refine RegI.p 4 [(3, .int .u8 t43), (27, .bool false), (29, .pointer (some ⟨b16, 2, none⟩))] ?_
    refine RegI.o (OpE.storeBox 0 4 b16 2 (.bool false) [.func (.func 169) #[] #[.pointer (some ⟨b17, 0, none⟩)], .int .i64 (IntKind.wrap .i64 (t21 + 1)), .bool false] h51 (by kernel_rfl) (by kernel_rfl) rfl (by kernel_rfl) (by kernel_rfl) (by kernel_rfl) ?_)
    intro w57 h58 hk59
    refine RegI.d ?_
    refine RunsI.g 1 [.c 9, .c 10] ?_
    refine RunsI.r ?_
    refine RegI.p 2 [(2, .int .u8 t43)] ?_
    refine RegI.d ?_
    refine RunsI.t (.int .u8 t43) ?_
    refine cont_mk ?_
    refine RegI.l [0, 5, 6, 9] [(0, .pointer (some ⟨b16, 0, none⟩)), (5, .int .u8 t23), (6, .int .i64 t24), (9, .int .u8 t43)] ?_
    exact hj69 t42 false t43 A40 c41 w57 h (h58.pick [0, 1, 2, 3] (by decide))
  clear hJ48
  refine RunsI.g 1 [.c 1, .c 2] ?_
  refine RunsI.r ?_
  refine RegI.p 2 [(0, .pointer (some ⟨b17, 0, none⟩))] ?_
  refine RegI.d ?_
  refine RunsI.g 2 [.c 4, .c 5, .c 10] ?_
  refine RunsI.r ?_
  refine RegI.o (OpE.loadBox 4 1 23 b17 0 (.slice A18 t20.length c19) hH (by kernel_rfl) (by kernel_rfl) rfl (by kernel_rfl) ?_)
  refine RegI.p 2 [(0, .pointer (some ⟨b17, 0, none⟩)), (6, .bool ((t20.length : Int) == 0))] ?_
  refine RegI.d ?_
  rcases of_cond h with ⟨hc26, h⟩ | ⟨hc26, h⟩
  ·skip
   refine RunsI.f 6 true hc26 ?_
   refine RunsI.b true 6 ?_
   refine RunsI.g 1 [.c 7, .c 8, .c 10] ?_
   refine RunsI.r ?_
   refine RegI.p 2 [(1, .int .u8 0), (2, .bool false)] ?_
   refine RegI.d ?_
   refine RunsI.t (.tuple #[.int .u8 0, .bool false]) ?_
   refine cont_mk ?_
   refine RegI.l [0, 10] [(0, .pointer (some ⟨b16, 0, none⟩)), (10, .tuple #[.int .u8 0, .bool false])] ?_
   exact hj49 t20 0 false A18 c19 w h (hH.pick [0, 1, 2, 3] (by decide))
  ·skip
   refine RunsI.f 6 false hc26 ?_
   refine RunsI.b false 9 ?_
   refine RunsI.g 1 [.c 10] ?_
   refine RunsI.g 1 [.c 11, .c 12] ?_
   refine RunsI.r ?_
   refine RegI.o (OpE.loadBox 7 1 23 b17 0 (.slice A18 t20.length c19) hH (by kernel_rfl) (by kernel_rfl) rfl (by kernel_rfl) ?_)
   obtain ⟨hc27, h⟩ := of_cond0 h
   refine RegI.o (OpE.idxSl 8 2 23 0 hH (by kernel_rfl) rfl (by kernel_rfl) (by kernel_rfl) hc27 ?_)
   intro b28 o29 cs30 hk31 h32
   obtain rfl := hk31
   refine RegI.o (OpE.loadCel 9 4 5 b28 o29 0 (.int .u8 (rdD t20 0)) h32 (by kernel_rfl) (by kernel_rfl) rfl (by kernel_rfl) ?_)
   refine RegI.p 1 [(0, .pointer (some ⟨b17, 0, none⟩)), (3, .int .u8 (rdD t20 0))] ?_
   refine RegI.d ?_
   refine RunsI.g 1 [.c 13, .c 14] ?_
   refine RunsI.r ?_
   refine RegI.o (OpE.loadBox 10 1 23 b17 0 (.slice A18 t20.length c19) h32 (by kernel_rfl) (by kernel_rfl) rfl (by kernel_rfl) ?_)
   obtain ⟨hc33, h⟩ := of_cond0 h
   refine RegI.o (OpE.cutSl 11 2 23 (some 1) none h32 (by kernel_rfl) rfl (by kernel_rfl) (by kernel_rfl) hc33 ?_)
   intro A34 c35 h36
   refine RegI.o (OpE.storeBox 1 23 b17 0 (.slice A34 ((cutL t20 1 (t20.length : Int)).length) c35) [.slice A34 ((cutL t20 1 (t20.length : Int)).length) c35] h36 (by kernel_rfl) (by kernel_rfl) rfl (by kernel_rfl) (by kernel_rfl) (by kernel_rfl) ?_)
   intro w37 h38 hk39
   refine RegI.d ?_
   refine RunsI.g 1 [.c 15, .c 16] ?_
   refine RunsI.r ?_
   refine RegI.p 3 [(1, .int .u8 (rdD t20 0)), (2, .bool true)] ?_
   refine RegI.d ?_
   refine RunsI.t (.tuple #[.int .u8 (rdD t20 0), .bool true]) ?_
   refine cont_mk ?_
   refine RegI.l [0, 10] [(0, .pointer (some ⟨b16, 0, none⟩)), (10, .tuple #[.int .u8 (rdD t20 0), .bool true])] ?_
   exact hj49 (cutL t20 1 (t20.length : Int)) (rdD t20 0) true A34 c35 w37 h (h38.pick [0, 1, 5, 3] (by decide))
def decode_Next_133.f (K : Nat) (p0 : List Int) : Option (Int × Int × Int × Int × Int × Int × Bool) := (decode_Next_133.l0 K p0 K p0 0 true 0 0).bind (fun yx86 => Let (fun (yj385 : (List Int) × Int × Bool × Int × Int × Int × Int) => Let (fun (t389 : Bool) => Let (fun (t399 : Int) => (decode_Size_152.f K t399 yj385.2.2.2.2.1).bind fun t409 => Let (fun (yj557 : (List Int) × Int × Bool × Int) => cond (!yj557.2.2.1) (some (0, 0, 0, 0, 0, 0, false)) (some (t399, yj385.2.2.2.2.1, yj385.2.2.2.2.2.1, yj557.2.2.2, yj557.2.1, yj385.2.2.2.2.2.2, true))) (fun j557 => cond (t409 == 0) (j557 (yj385.1, yj385.2.1, yj385.2.2.1, 0)) (cond (t409 == 1) (Let (fun (yj453 : Int × (List Int) × Bool) => j557 (yj453.2.1, (IntKind.wrap .i64 (yj385.2.1 + 1)), yj453.2.2, (IntKind.wrap .u16 yj453.1))) (fun j453 => Let (fun (yj433 : (List Int) × Int × Bool) => cond yj385.2.2.1 (j453 (yj433.2.1, yj433.1, yj433.2.2)) (j453 (yj433.2.1, yj433.1, false))) (fun j433 => cond ((yj385.1.length : Int) == 0) (j433 (yj385.1, 0, false)) (cond (inR 0 yj385.1.length) (cond (cutR 1 (yj385.1.length : Int) yj385.1.length) (j433 ((cutL yj385.1 1 (yj385.1.length : Int)), (rdD yj385.1 0), true)) none) none)))) (Let (fun (yj497 : (List Int) × Bool × Int) => Let (fun (yj541 : Int × (List Int) × Bool) => (bits_Word_36.f K yj541.1 yj497.2.2).bind fun t548 => j557 (yj541.2.1, (IntKind.wrap .i64 ((IntKind.wrap .i64 (yj385.2.1 + 1)) + 1)), yj541.2.2, t548)) (fun j541 => Let (fun (yj521 : (List Int) × Int × Bool) => cond yj497.2.1 (j541 (yj521.2.1, yj521.1, yj521.2.2)) (j541 (yj521.2.1, yj521.1, false))) (fun j521 => cond ((yj497.1.length : Int) == 0) (j521 (yj497.1, 0, false)) (cond (inR 0 yj497.1.length) (cond (cutR 1 (yj497.1.length : Int) yj497.1.length) (j521 ((cutL yj497.1 1 (yj497.1.length : Int)), (rdD yj497.1 0), true)) none) none)))) (fun j497 => Let (fun (yj477 : (List Int) × Int × Bool) => cond yj385.2.2.1 (j497 (yj477.1, yj477.2.2, yj477.2.1)) (j497 (yj477.1, false, yj477.2.1))) (fun j477 => cond ((yj385.1.length : Int) == 0) (j477 (yj385.1, 0, false)) (cond (inR 0 yj385.1.length) (cond (cutR 1 (yj385.1.length : Int) yj385.1.length) (j477 ((cutL yj385.1 1 (yj385.1.length : Int)), (rdD yj385.1 0), true)) none) none))))))) (fun j402 => cond t389 (j402 (IntKind.wrap .i64 (yj385.2.2.2.1 + 1))) (j402 yj385.2.2.2.1))) (fun j392 => cond (yx86.1 == 253) (j392 (yj385.2.2.2.1 != 2)) (j392 false))) (fun j385 => cond (yx86.2.1 == 237) (Let (fun (yj148 : (List Int) × Bool × Int) => cond (yx86.1 != 0) (j385 (yj148.1, (IntKind.wrap .i64 (yx86.2.2.2.2.1 + 1)), yj148.2.1, 2, yj148.2.2, 0, (IntKind.wrap .i64 (yx86.2.2.1 + 1)))) (j385 (yj148.1, (IntKind.wrap .i64 (yx86.2.2.2.2.1 + 1)), yj148.2.1, 2, yj148.2.2, 0, yx86.2.2.1))) (fun j148 => Let (fun (yj128 : (List Int) × Int × Bool) => cond yx86.2.2.2.2.2 (j148 (yj128.1, yj128.2.2, yj128.2.1)) (j148 (yj128.1, false, yj128.2.1))) (fun j128 => cond ((yx86.2.2.2.1.length : Int) == 0) (j128 (yx86.2.2.2.1, 0, false)) (cond (inR 0 yx86.2.2.2.1.length) (cond (cutR 1 (yx86.2.2.2.1.length : Int) yx86.2.2.2.1.length) (j128 ((cutL yx86.2.2.2.1 1 (yx86.2.2.2.1.length : Int)), (rdD yx86.2.2.2.1 0), true)) none) none)))) (Let (fun (t162 : Bool) => cond t162 (Let (fun (yj213 : (List Int) × Bool × Int) => Let (fun (yj260 : (List Int) × Bool × Int) => j385 (yj260.1, (IntKind.wrap .i64 ((IntKind.wrap .i64 (yx86.2.2.2.2.1 + 1)) + 1)), yj260.2.1, 5, yj260.2.2, yj213.2.2, yx86.2.2.1)) (fun j260 => Let (fun (yj240 : (List Int) × Int × Bool) => cond yj213.2.1 (j260 (yj240.1, yj240.2.2, yj240.2.1)) (j260 (yj240.1, false, yj240.2.1))) (fun j240 => cond ((yj213.1.length : Int) == 0) (j240 (yj213.1, 0, false)) (cond (inR 0 yj213.1.length) (cond (cutR 1 (yj213.1.length : Int) yj213.1.length) (j240 ((cutL yj213.1 1 (yj213.1.length : Int)), (rdD yj213.1 0), true)) none) none)))) (fun j213 => Let (fun (yj193 : (List Int) × Int × Bool) => cond yx86.2.2.2.2.2 (j213 (yj193.1, yj193.2.2, yj193.2.1)) (j213 (yj193.1, false, yj193.2.1))) (fun j193 => cond ((yx86.2.2.2.1.length : Int) == 0) (j193 (yx86.2.2.2.1, 0, false)) (cond (inR 0 yx86.2.2.2.1.length) (cond (cutR 1 (yx86.2.2.2.1.length : Int) yx86.2.2.2.1.length) (j193 ((cutL yx86.2.2.2.1 1 (yx86.2.2.2.1.length : Int)), (rdD yx86.2.2.2.1 0), true)) none) none)))) (cond (yx86.2.1 == 203) (Let (fun (yj308 : (List Int) × Bool × Int) => j385 (yj308.1, (IntKind.wrap .i64 (yx86.2.2.2.2.1 + 1)), yj308.2.1, 1, yj308.2.2, 0, yx86.2.2.1)) (fun j308 => Let (fun (yj288 : (List Int) × Int × Bool) => cond yx86.2.2.2.2.2 (j308 (yj288.1, yj288.2.2, yj288.2.1)) (j308 (yj288.1, false, yj288.2.1))) (fun j288 => cond ((yx86.2.2.2.1.length : Int) == 0) (j288 (yx86.2.2.2.1, 0, false)) (cond (inR 0 yx86.2.2.2.1.length) (cond (cutR 1 (yx86.2.2.2.1.length : Int) yx86.2.2.2.1.length) (j288 ((cutL yx86.2.2.2.1 1 (yx86.2.2.2.1.length : Int)), (rdD yx86.2.2.2.1 0), true)) none) none)))) (cond (yx86.1 != 0) ((decode_Near_120.f K 3 yx86.2.1).bind fun t325 => cond t325 (Let (fun (yj368 : (List Int) × Bool × Int) => j385 (yj368.1, (IntKind.wrap .i64 (yx86.2.2.2.2.1 + 1)), yj368.2.1, 3, yx86.2.1, yj368.2.2, yx86.2.2.1)) (fun j368 => Let (fun (yj348 : (List Int) × Int × Bool) => cond yx86.2.2.2.2.2 (j368 (yj348.1, yj348.2.2, yj348.2.1)) (j368 (yj348.1, false, yj348.2.1))) (fun j348 => cond ((yx86.2.2.2.1.length : Int) == 0) (j348 (yx86.2.2.2.1, 0, false)) (cond (inR 0 yx86.2.2.2.1.length) (cond (cutR 1 (yx86.2.2.2.1.length : Int) yx86.2.2.2.1.length) (j348 ((cutL yx86.2.2.2.1 1 (yx86.2.2.2.1.length : Int)), (rdD yx86.2.2.2.1 0), true)) none) none)))) (j385 (yx86.2.2.2.1, yx86.2.2.2.2.1, yx86.2.2.2.2.2, 3, yx86.2.1, 0, yx86.2.2.1))) (j385 (yx86.2.2.2.1, yx86.2.2.2.2.1, yx86.2.2.2.2.2, 0, yx86.2.1, 0, yx86.2.2.1))))) (fun j165 => cond (yx86.2.1 == 203) (j165 (yx86.1 != 0)) (j165 false)))))
set_option maxRecDepth 100000 in
theorem decode_Next_133_ok (K : Nat) (M0 : Nat → Prop) (w0 : World) (pA0 : Option Addr) (pc0 : Nat) (p0 : List Int) (ho : ∀ b, M0 b → b < w0.heap.size) (hs0 : Sl (Rp.int .u8) w0 M0 (.slice pA0 p0.length pc0) p0) {r : Int × Int × Int × Int × Int × Int × Bool} (h : decode_Next_133.f K p0 = some r) :
  Calls Tryd.prog 133 #[.slice pA0 p0.length pc0] w0 (decode_Next_133.post M0 w0 r) := by
 unfold decode_Next_133.f at h
 have h0 : Holds M0 w0 w0 [] := Holds.start ho
 have h00 := h0.addSl (Rp.int .u8) (.slice pA0 p0.length pc0) p0 (hs0.mono (fun _ _ hm => hm.elim id (fun hm => absurd hm (by simp [mines, sl]))))
 have h0 : Holds M0 w0 w0 [sl (Rp.int .u8) (.slice pA0 p0.length pc0) p0] := h00
 refine calls_of F133 rfl [.slice pA0 p0.length pc0] (by kernel_rfl) ?_
 refine RunsI.g 1 [.c 1, .c 2] ?_
 refine RunsI.r ?_
 refine RegI.o (OpE.box 2 51 [.int .i64 0, .int .u8 0, .int .u8 0, .int .u16 0, .int .i64 0, .int .i64 0] h0 (by kernel_rfl) (by kernel_rfl) ?_)
 intro w1 b2 h3 hb4 hn5
 refine RegI.p 1 [(0, .slice pA0 p0.length pc0), (2, .pointer (some ⟨b2, 0, none⟩))] ?_
 refine RegI.d ?_
 refine RunsI.g 1 [.c 3, .c 4] ?_
 refine RunsI.r ?_
 refine RegI.p 1 [(2, .pointer (some ⟨b2, 0, none⟩)), (9, .slice pA0 p0.length pc0)] ?_
 refine RegI.enter 10 [2] [(2, .pointer (some ⟨b2, 0, none⟩))] (by kernel_rfl) (by kernel_rfl) (by kernel_rfl) (by kernel_rfl) F148 148 rfl [.slice pA0 p0.length pc0] (by kernel_rfl) (by kernel_rfl) ?_
 refine RunsI.g 1 [.c 1, .c 2] ?_
 refine RunsI.r ?_
 refine RegI.o (OpE.box 1 23 [.slice pA0 p0.length pc0] h3 (by kernel_rfl) (by kernel_rfl) ?_)
 intro w6 b7 h8 hb9 hn10
 refine RegI.p 1 [(1, .pointer (some ⟨b7, 0, none⟩))] ?_
 refine RegI.d ?_
 refine RunsI.g 1 [.c 3, .c 4] ?_
 refine RunsI.r ?_
 refine RegI.p 2 [(2, .func (.func 169) #[] #[.pointer (some ⟨b7, 0, none⟩)])] ?_
 refine RegI.d ?_
 refine RunsI.t (.func (.func 169) #[] #[.pointer (some ⟨b7, 0, none⟩)]) ?_
 refine cont_mk ?_
 refine RegI.p 1 [(2, .pointer (some ⟨b2, 0, none⟩)), (11, .agg #[.func (.func 169) #[] #[.pointer (some ⟨b7, 0, none⟩)], .int .i64 0, .bool true])] ?_
 refine RegI.o (OpE.box 12 170 [.func (.func 169) #[] #[.pointer (some ⟨b7, 0, none⟩)], .int .i64 0, .bool true] h8 (by kernel_rfl) (by kernel_rfl) ?_)
 intro w11 b12 h13 hb14 hn15
 refine RegI.p 1 [(2, .pointer (some ⟨b2, 0, none⟩)), (4, .pointer (some ⟨b12, 0, none⟩))] ?_
 refine RegI.d ?_
 refine RunsI.g 1 [.c 5, .c 6] ?_
 refine RunsI.r ?_
 refine RegI.p 1 [(2, .pointer (some ⟨b2, 0, none⟩)), (4, .pointer (some ⟨b12, 0, none⟩)), (14, .pointer (some ⟨b12, 0, none⟩))] ?_
 refine RegI.enter 15 [2, 4] [(2, .pointer (some ⟨b2, 0, none⟩)), (4, .pointer (some ⟨b12, 0, none⟩))] (by kernel_rfl) (by kernel_rfl) (by kernel_rfl) (by kernel_rfl) F149 149 rfl [.pointer (some ⟨b12, 0, none⟩)] (by kernel_rfl) (by kernel_rfl) ?_
 refine RunsI.g 1 [.c 1, .c 2] ?_
 refine RunsI.r ?_
 refine RegI.p 3 [(0, .pointer (some ⟨b12, 0, none⟩))] ?_
 refine RegI.d ?_
 refine RunsI.g 1 [.c 3, .c 4] ?_
 refine RunsI.r ?_
 refine RegI.p 1 [(0, .pointer (some ⟨b12, 0, none⟩)), (5, .int .u8 0)] ?_
 refine RegI.d ?_
 refine RunsI.g 1 [.c 5, .c 6] ?_
 refine RunsI.r ?_
 refine RegI.p 1 [(0, .pointer (some ⟨b12, 0, none⟩)), (5, .int .u8 0), (6, .int .i64 0)] ?_
 refine RegI.d ?_
 refine RunsI.g 2 [.c 8, .lp 8, .blk 0] ?_
 obtain ⟨x86, hx87, h⟩ := of_bind h
 refine RunsI.l [0, 5, 6] [(0, .pointer (some ⟨b12, 0, none⟩)), (5, .int .u8 0), (6, .int .i64 0)] ?_
 refine decode_Next_133.l0_ok K M0 w0 pA0 pc0 p0 b12 b7 b2 _ x86 ?_ K p0 0 true 0 0 pA0 pc0 w11 hx87 (h13.pick [3, 2, 0, 1] (by decide))
 ·intro t88 t89 t90 t93 t94 t95 A91 c92 w97 hq573 h96
  (try rw [hq573] at h)
  dsimp only at h
  refine cont_mk ?_
  refine RegI.p 7 [(2, .pointer (some ⟨b2, 0, none⟩)), (4, .pointer (some ⟨b12, 0, none⟩)), (5, .int .u8 t88), (6, .int .u8 t89), (7, .int .i64 t90)] ?_
  refine RegI.d ?_
  refine RunsI.g 1 [.c 7, .c 8] ?_
  refine RunsI.r ?_
  refine RegI.p 3 [(2, .pointer (some ⟨b2, 0, none⟩)), (4, .pointer (some ⟨b12, 0, none⟩)), (5, .int .u8 t88), (6, .int .u8 t89), (21, .agg #[.int .i64 0, .int .u8 t89, .int .u8 0, .int .u16 0, .int .i64 0, .int .i64 t90])] ?_
  refine RegI.o (OpE.box 8 51 [.int .i64 0, .int .u8 0, .int .u8 0, .int .u16 0, .int .i64 0, .int .i64 0] h96 (by kernel_rfl) (by kernel_rfl) ?_)
  intro w98 b99 h100 hb101 hn102
  refine RegI.o (OpE.storeBox 4 51 b99 0 (.agg #[.int .i64 0, .int .u8 t89, .int .u8 0, .int .u16 0, .int .i64 0, .int .i64 t90]) [.int .i64 0, .int .u8 t89, .int .u8 0, .int .u16 0, .int .i64 0, .int .i64 t90] h100 (by kernel_rfl) (by kernel_rfl) rfl (by kernel_rfl) (by kernel_rfl) (by kernel_rfl) ?_)
  intro w103 h104 hk105
  refine RegI.d ?_
  refine RunsI.g 3 [.c 11, .c 12, .blk 0, .c 43] ?_
  refine RunsI.r ?_
  refine RegI.p 3 [(2, .pointer (some ⟨b2, 0, none⟩)), (4, .pointer (some ⟨b12, 0, none⟩)), (5, .int .u8 t88), (6, .int .u8 t89), (8, .pointer (some ⟨b99, 0, none⟩)), (22, .bool (t89 == 237))] ?_
  refine RegI.d ?_
  obtain ⟨j385, hJ386, h⟩ := of_let h
  have hj387 : ∀ (t376 : List Int) (t377 : Int) (t378 : Bool) (t379 : Int) (t380 : Int) (t381 : Int) (t382 : Int) (A374 : Option Addr) (c375 : Nat) (w384 : World), j385 (t376, t377, t378, t379, t380, t381, t382) = some r → Holds M0 w0 w384 [box b2 51 [.int .i64 0, .int .u8 0, .int .u8 0, .int .u16 0, .int .i64 0, .int .i64 0], box b12 170 [.func (.func 169) #[] #[.pointer (some ⟨b7, 0, none⟩)], .int .i64 t377, .bool t378], box b7 23 [.slice A374 t376.length c375], sl (Rp.int .u8) (.slice A374 t376.length c375) t376, box b99 51 [.int .i64 t379, .int .u8 t380, .int .u8 t381, .int .u16 0, .int .i64 0, .int .i64 t382]] → RunsI F133 [.blk 0, .c 43] [(2, .pointer (some ⟨b2, 0, none⟩)), (4, .pointer (some ⟨b12, 0, none⟩)), (5, .int .u8 t88), (8, .pointer (some ⟨b99, 0, none⟩))] w384 (decode_Next_133.post M0 w0 r) := by
   intro t376 t377 t378 t379 t380 t381 t382 A374 c375 w384 h h383
   rw [hJ386] at h
   clear hJ386
   dsimp only at h
   refine RunsI.g 3 [.c 45, .c 46, .c 49] ?_
   refine RunsI.r ?_
   refine RegI.p 3 [(2, .pointer (some ⟨b2, 0, none⟩)), (4, .pointer (some ⟨b12, 0, none⟩)), (8, .pointer (some ⟨b99, 0, none⟩)), (69, .bool (t88 == 253))] ?_
   obtain ⟨j392, hJ393, h⟩ := of_let h
   have hj394 : ∀ (t389 : Bool) (w391 : World), j392 t389 = some r → Holds M0 w0 w391 [box b2 51 [.int .i64 0, .int .u8 0, .int .u8 0, .int .u16 0, .int .i64 0, .int .i64 0], box b12 170 [.func (.func 169) #[] #[.pointer (some ⟨b7, 0, none⟩)], .int .i64 t377, .bool t378], box b7 23 [.slice A374 t376.length c375], sl (Rp.int .u8) (.slice A374 t376.length c375) t376, box b99 51 [.int .i64 t379, .int .u8 t380, .int .u8 t381, .int .u16 0, .int .i64 0, .int .i64 t382]] → RegI F133 45 [.c 46, .c 49] 7 [(2, .pointer (some ⟨b2, 0, none⟩)), (4, .pointer (some ⟨b12, 0, none⟩)), (8, .pointer (some ⟨b99, 0, none⟩)), (73, .bool t389)] w391 (decode_Next_133.post M0 w0 r) := by
    intro t389 w391 h h390
    rw [hJ393] at h
    clear hJ393
    dsimp only at h
    refine RegI.d ?_
    obtain ⟨j402, hJ403, h⟩ := of_let h
    have hj404 : ∀ (t399 : Int) (w401 : World), j402 t399 = some r → Holds M0 w0 w401 [box b2 51 [.int .i64 0, .int .u8 0, .int .u8 0, .int .u16 0, .int .i64 0, .int .i64 0], box b12 170 [.func (.func 169) #[] #[.pointer (some ⟨b7, 0, none⟩)], .int .i64 t377, .bool t378], box b7 23 [.slice A374 t376.length c375], sl (Rp.int .u8) (.slice A374 t376.length c375) t376, box b99 51 [.int .i64 t399, .int .u8 t380, .int .u8 t381, .int .u16 0, .int .i64 0, .int .i64 t382]] → RunsI F133 [.c 49] [(2, .pointer (some ⟨b2, 0, none⟩)), (4, .pointer (some ⟨b12, 0, none⟩)), (8, .pointer (some ⟨b99, 0, none⟩))] w401 (decode_Next_133.post M0 w0 r) := by
     intro t399 w401 h h400
     rw [hJ403] at h
     clear hJ403
     dsimp only at h
     refine RunsI.g 1 [.c 50, .c 51] ?_
     refine RunsI.r ?_
     refine RegI.p 2 [(2, .pointer (some ⟨b2, 0, none⟩)), (4, .pointer (some ⟨b12, 0, none⟩)), (8, .pointer (some ⟨b99, 0, none⟩)), (78, .pointer (some ⟨b12, 0, none⟩)), (79, .pointer (some ⟨b99, 0, none⟩))] ?_
     refine RegI.o (OpE.loadBox 80 4 3 b99 0 (.int .i64 t399) h400 (by kernel_rfl) (by kernel_rfl) rfl (by kernel_rfl) ?_)
     refine RegI.p 1 [(2, .pointer (some ⟨b2, 0, none⟩)), (4, .pointer (some ⟨b12, 0, none⟩)), (8, .pointer (some ⟨b99, 0, none⟩)), (78, .pointer (some ⟨b12, 0, none⟩)), (80, .int .i64 t399), (81, .pointer (some ⟨b99, 1, none⟩))] ?_
     refine RegI.o (OpE.loadBox 82 4 5 b99 1 (.int .u8 t380) h400 (by kernel_rfl) (by kernel_rfl) rfl (by kernel_rfl) ?_)
     obtain ⟨t409, hg408, h⟩ := of_bind h
     refine RegI.o (OpE.call 83 (by kernel_rfl) 152 #[.int .i64 t399, .int .u8 t380] (by kernel_rfl) ((decode_Size_152_ok K _ w401  t399 t380 h400.old' hg408).mono ?_))
     rintro _ w405 ⟨rfl, hb406⟩
     refine ⟨_, rfl, ?_⟩
     have h407 := h400.call hb406
     refine RegI.enter 84 [2, 4, 8] [(2, .pointer (some ⟨b2, 0, none⟩)), (4, .pointer (some ⟨b12, 0, none⟩)), (8, .pointer (some ⟨b99, 0, none⟩))] (by kernel_rfl) (by kernel_rfl) (by kernel_rfl) (by kernel_rfl) F151 151 rfl [.pointer (some ⟨b12, 0, none⟩), .int .i64 t409] (by kernel_rfl) (by kernel_rfl) ?_
     obtain ⟨j557, hJ558, h⟩ := of_let h
     have hj559 : ∀ (t551 : List Int) (t552 : Int) (t553 : Bool) (t554 : Int) (A549 : Option Addr) (c550 : Nat) (w556 : World), j557 (t551, t552, t553, t554) = some r → Holds M0 w0 w556 [box b2 51 [.int .i64 0, .int .u8 0, .int .u8 0, .int .u16 0, .int .i64 0, .int .i64 0], box b12 170 [.func (.func 169) #[] #[.pointer (some ⟨b7, 0, none⟩)], .int .i64 t552, .bool t553], box b7 23 [.slice A549 t551.length c550], sl (Rp.int .u8) (.slice A549 t551.length c550) t551, box b99 51 [.int .i64 t399, .int .u8 t380, .int .u8 t381, .int .u16 0, .int .i64 0, .int .i64 t382]] → RegI F133 50 [.c 51] 7 [(2, .pointer (some ⟨b2, 0, none⟩)), (4, .pointer (some ⟨b12, 0, none⟩)), (8, .pointer (some ⟨b99, 0, none⟩)), (84, .int .u16 t554)] w556 (decode_Next_133.post M0 w0 r) := by
      intro t551 t552 t553 t554 A549 c550 w556 h h555
      rw [hJ558] at h
      clear hJ558
      dsimp only at h
      refine RegI.p 1 [(2, .pointer (some ⟨b2, 0, none⟩)), (4, .pointer (some ⟨b12, 0, none⟩)), (8, .pointer (some ⟨b99, 0, none⟩)), (84, .int .u16 t554), (85, .pointer (some ⟨b99, 3, none⟩))] ?_
      refine RegI.o (OpE.storeBox 4 22 b99 3 (.int .u16 t554) [.int .i64 t399, .int .u8 t380, .int .u8 t381, .int .u16 t554, .int .i64 0, .int .i64 t382] h555 (by kernel_rfl) (by kernel_rfl) rfl (by kernel_rfl) (by kernel_rfl) (by kernel_rfl) ?_)
      intro w560 h561 hk562
      refine RegI.d ?_
      refine RunsI.g 1 [.c 52, .c 53] ?_
      refine RunsI.r ?_
      refine RegI.p 3 [(2, .pointer (some ⟨b2, 0, none⟩)), (4, .pointer (some ⟨b12, 0, none⟩)), (8, .pointer (some ⟨b99, 0, none⟩)), (88, .pointer (some ⟨b12, 1, none⟩))] ?_
      refine RegI.o (OpE.loadBox 89 1 3 b12 1 (.int .i64 t552) h561 (by kernel_rfl) (by kernel_rfl) rfl (by kernel_rfl) ?_)
      refine RegI.p 1 [(2, .pointer (some ⟨b2, 0, none⟩)), (4, .pointer (some ⟨b12, 0, none⟩)), (8, .pointer (some ⟨b99, 0, none⟩)), (89, .int .i64 t552), (90, .pointer (some ⟨b99, 4, none⟩))] ?_
      refine RegI.o (OpE.storeBox 4 3 b99 4 (.int .i64 t552) [.int .i64 t399, .int .u8 t380, .int .u8 t381, .int .u16 t554, .int .i64 t552, .int .i64 t382] h561 (by kernel_rfl) (by kernel_rfl) rfl (by kernel_rfl) (by kernel_rfl) (by kernel_rfl) ?_)
      intro w563 h564 hk565
      refine RegI.d ?_
      refine RunsI.g 2 [.c 55, .c 56, .c 61] ?_
      refine RunsI.r ?_
      refine RegI.p 3 [(2, .pointer (some ⟨b2, 0, none⟩)), (8, .pointer (some ⟨b99, 0, none⟩)), (93, .pointer (some ⟨b12, 2, none⟩))] ?_
      refine RegI.o (OpE.loadBox 94 1 4 b12 2 (.bool t553) h564 (by kernel_rfl) (by kernel_rfl) rfl (by kernel_rfl) ?_)
      refine RegI.p 1 [(2, .pointer (some ⟨b2, 0, none⟩)), (8, .pointer (some ⟨b99, 0, none⟩)), (95, .bool (!t553))] ?_
      refine RegI.d ?_
      rcases of_cond h with ⟨hc566, h⟩ | ⟨hc566, h⟩
      ·skip
       refine RunsI.f 95 true hc566 ?_
       refine RunsI.b true 57 ?_
       refine RunsI.g 1 [.c 58, .c 59, .c 61] ?_
       refine RunsI.r ?_
       refine RegI.p 1 [(2, .pointer (some ⟨b2, 0, none⟩)), (96, .agg #[.int .i64 0, .int .u8 0, .int .u8 0, .int .u16 0, .int .i64 0, .int .i64 0])] ?_
       refine RegI.o (OpE.storeBox 0 51 b2 0 (.agg #[.int .i64 0, .int .u8 0, .int .u8 0, .int .u16 0, .int .i64 0, .int .i64 0]) [.int .i64 0, .int .u8 0, .int .u8 0, .int .u16 0, .int .i64 0, .int .i64 0] h564 (by kernel_rfl) (by kernel_rfl) rfl (by kernel_rfl) (by kernel_rfl) (by kernel_rfl) ?_)
       intro w567 h568 hk569
       refine RegI.p 1 [(2, .pointer (some ⟨b2, 0, none⟩)), (3, .bool false)] ?_
       refine RegI.d ?_
       refine RunsI.toRet (by kernel_rfl) ?_
       refine RetI.valW [.cell 2 51, .tmp 3] [.agg #[.int .i64 0, .int .u8 0, .int .u8 0, .int .u16 0, .int .i64 0, .int .i64 0], .bool false] (.tuple #[.agg #[.int .i64 0, .int .u8 0, .int .u8 0, .int .u16 0, .int .i64 0, .int .i64 0], .bool false]) (by kernel_rfl) (ResAt.box 0 51 b2 0 h568 (by kernel_rfl) (by kernel_rfl) rfl (by kernel_rfl) (ResAt.tmp (by kernel_rfl) (by kernel_rfl) rfl)) (by kernel_rfl) ?_
       obtain rfl := Option.some.inj h
       exact ⟨rfl, h568.below⟩
      ·skip
       refine RunsI.f 95 false hc566 ?_
       refine RunsI.b false 60 ?_
       refine RunsI.g 1 [.c 61] ?_
       refine RunsI.g 1 [.c 62, .c 63] ?_
       refine RunsI.r ?_
       refine RegI.o (OpE.loadBox 97 4 51 b99 0 (.agg #[.int .i64 t399, .int .u8 t380, .int .u8 t381, .int .u16 t554, .int .i64 t552, .int .i64 t382]) h564 (by kernel_rfl) (by kernel_rfl) rfl (by kernel_rfl) ?_)
       refine RegI.o (OpE.storeBox 0 51 b2 0 (.agg #[.int .i64 t399, .int .u8 t380, .int .u8 t381, .int .u16 t554, .int .i64 t552, .int .i64 t382]) [.int .i64 t399, .int .u8 t380, .int .u8 t381, .int .u16 t554, .int .i64 t552, .int .i64 t382] h564 (by kernel_rfl) (by kernel_rfl) rfl (by kernel_rfl) (by kernel_rfl) (by kernel_rfl) ?_)
       intro w570 h571 hk572
       refine RegI.p 1 [(2, .pointer (some ⟨b2, 0, none⟩)), (3, .bool true)] ?_
       refine RegI.d ?_
       refine RunsI.toRet (by kernel_rfl) ?_
       refine RetI.valW [.cell 2 51, .tmp 3] [.agg #[.int .i64 t399, .int .u8 t380, .int .u8 t381, .int .u16 t554, .int .i64 t552, .int .i64 t382], .bool true] (.tuple #[.agg #[.int .i64 t399, .int .u8 t380, .int .u8 t381, .int .u16 t554, .int .i64 t552, .int .i64 t382], .bool true]) (by kernel_rfl) (ResAt.box 0 51 b2 0 h571 (by kernel_rfl) (by kernel_rfl) rfl (by kernel_rfl) (ResAt.tmp (by kernel_rfl) (by kernel_rfl) rfl)) (by kernel_rfl) ?_
       obtain rfl := Option.some.inj h
       exact ⟨rfl, h571.below⟩
     clear hJ558
     refine RunsI.g 1 [.c 1, .c 2] ?_
     refine RunsI.r ?_
     refine RegI.p 1 [(0, .pointer (some ⟨b12, 0, none⟩)), (1, .int .i64 t409)] ?_
     refine RegI.d ?_
     refine RunsI.g 2 [.c 4, .c 5, .c 19] ?_
     refine RunsI.r ?_
     refine RegI.p 1 [(0, .pointer (some ⟨b12, 0, none⟩)), (6, .int .i64 t409)] ?_
     refine RegI.d ?_
     refine RunsI.g 2 [.c 7, .c 8, .blk 0, .c 19] ?_
     refine RunsI.r ?_
     refine RegI.p 2 [(0, .pointer (some ⟨b12, 0, none⟩)), (6, .int .i64 t409), (7, .bool (t409 == 0))] ?_
     refine RegI.d ?_
     rcases of_cond h with ⟨hc410, h⟩ | ⟨hc410, h⟩
     ·skip
      refine RunsI.f 7 true hc410 ?_
      refine RunsI.b true 9 ?_
      refine RunsI.g 1 [.c 10, .c 11, .blk 0, .c 19] ?_
      refine RunsI.r ?_
      refine RegI.p 1 [(4, .int .u16 0)] ?_
      refine RegI.d ?_
      refine RunsI.t (.int .u16 0) ?_
      refine cont_mk ?_
      refine RegI.l [2, 4, 8, 84] [(2, .pointer (some ⟨b2, 0, none⟩)), (4, .pointer (some ⟨b12, 0, none⟩)), (8, .pointer (some ⟨b99, 0, none⟩)), (84, .int .u16 0)] ?_
      exact hj559 t376 t377 t378 0 A374 c375 w405 h (h407.pick [0, 1, 2, 3, 4] (by decide))
     ·skip
      refine RunsI.f 7 false hc410 ?_
      refine RunsI.b false 12 ?_
      refine RunsI.g 1 [.c 13, .c 14, .blk 0, .c 19] ?_
      refine RunsI.r ?_
      refine RegI.p 2 [(0, .pointer (some ⟨b12, 0, none⟩)), (9, .bool (t409 == 1))] ?_
      refine RegI.d ?_
      rcases of_cond h with ⟨hc411, h⟩ | ⟨hc411, h⟩
      ·skip
       refine RunsI.f 9 true hc411 ?_
       refine RunsI.b true 15 ?_
       refine RunsI.g 1 [.c 16, .c 17, .blk 0, .c 19] ?_
       refine RunsI.r ?_
       refine RegI.p 1 [(11, .pointer (some ⟨b12, 0, none⟩))] ?_
       refine RegI.enter 12 [] [] (by kernel_rfl) (by kernel_rfl) (by kernel_rfl) (by kernel_rfl) F150 150 rfl [.pointer (some ⟨b12, 0, none⟩)] (by kernel_rfl) (by kernel_rfl) ?_
       obtain ⟨j453, hJ454, h⟩ := of_let h
       have hj455 : ∀ (t446 : Int) (t449 : List Int) (t450 : Bool) (A447 : Option Addr) (c448 : Nat) (w452 : World), j453 (t446, t449, t450) = some r → Holds M0 w0 w452 [box b2 51 [.int .i64 0, .int .u8 0, .int .u8 0, .int .u16 0, .int .i64 0, .int .i64 0], box b12 170 [.func (.func 169) #[] #[.pointer (some ⟨b7, 0, none⟩)], .int .i64 (IntKind.wrap .i64 (t377 + 1)), .bool t450], box b7 23 [.slice A447 t449.length c448], sl (Rp.int .u8) (.slice A447 t449.length c448) t449, box b99 51 [.int .i64 t399, .int .u8 t380, .int .u8 t381, .int .u16 0, .int .i64 0, .int .i64 t382]] → RegI F151 16 [.c 17, .blk 0, .c 19] 2 [(12, .int .u8 t446)] w452 (cont (fun e' w' => RegI F133 50 [.c 51] 7 e' w' (decode_Next_133.post M0 w0 r)) 84 [(2, .pointer (some ⟨b2, 0, none⟩)), (4, .pointer (some ⟨b12, 0, none⟩)), (8, .pointer (some ⟨b99, 0, none⟩))]) := by
        intro t446 t449 t450 A447 c448 w452 h h451
        rw [hJ454] at h
        clear hJ454
        dsimp only at h
        refine RegI.p 2 [(4, .int .u16 (IntKind.wrap .u16 t446))] ?_
        refine RegI.d ?_
        refine RunsI.t (.int .u16 (IntKind.wrap .u16 t446)) ?_
        refine cont_mk ?_
        refine RegI.l [2, 4, 8, 84] [(2, .pointer (some ⟨b2, 0, none⟩)), (4, .pointer (some ⟨b12, 0, none⟩)), (8, .pointer (some ⟨b99, 0, none⟩)), (84, .int .u16 (IntKind.wrap .u16 t446))] ?_
        exact hj559 t449 (IntKind.wrap .i64 (t377 + 1)) t450 (IntKind.wrap .u16 t446) A447 c448 w452 h (h451.pick [0, 1, 2, 3, 4] (by decide))
       clear hJ454
       refine RunsI.g 1 [.c 1, .c 2] ?_
       refine RunsI.r ?_
       refine RegI.p 1 [(0, .pointer (some ⟨b12, 0, none⟩))] ?_
       refine RegI.d ?_
       refine RunsI.g 1 [.c 3, .c 4] ?_
       refine RunsI.r ?_
       refine RegI.p 3 [(0, .pointer (some ⟨b12, 0, none⟩)), (8, .pointer (some ⟨b12, 0, none⟩))] ?_
       refine RegI.o (OpE.loadBox 9 1 167 b12 0 (.func (.func 169) #[] #[.pointer (some ⟨b7, 0, none⟩)]) h407 (by kernel_rfl) (by kernel_rfl) rfl (by kernel_rfl) ?_)
       refine RegI.enter 10 [0] [(0, .pointer (some ⟨b12, 0, none⟩))] (by kernel_rfl) (by kernel_rfl) (by kernel_rfl) (by kernel_rfl) F169 169 rfl [.pointer (some ⟨b7, 0, none⟩)] (by kernel_rfl) (by kernel_rfl) ?_
       obtain ⟨j433, hJ434, h⟩ := of_let h
       have hj435 : ∀ (t428 : List Int) (t429 : Int) (t430 : Bool) (A426 : Option Addr) (c427 : Nat) (w432 : World), j433 (t428, t429, t430) = some r → Holds M0 w0 w432 [box b12 170 [.func (.func 169) #[] #[.pointer (some ⟨b7, 0, none⟩)], .int .i64 t377, .bool t378], box b7 23 [.slice A426 t428.length c427], sl (Rp.int .u8) (.slice A426 t428.length c427) t428, box b2 51 [.int .i64 0, .int .u8 0, .int .u8 0, .int .u16 0, .int .i64 0, .int .i64 0], box b99 51 [.int .i64 t399, .int .u8 t380, .int .u8 t381, .int .u16 0, .int .i64 0, .int .i64 t382]] → RegI F150 3 [.c 4] 5 [(0, .pointer (some ⟨b12, 0, none⟩)), (10, .tuple #[.int .u8 t429, .bool t430])] w432 (cont (fun e' w' => RegI F151 16 [.c 17, .blk 0, .c 19] 2 e' w' (cont (fun e' w' => RegI F133 50 [.c 51] 7 e' w' (decode_Next_133.post M0 w0 r)) 84 [(2, .pointer (some ⟨b2, 0, none⟩)), (4, .pointer (some ⟨b12, 0, none⟩)), (8, .pointer (some ⟨b99, 0, none⟩))])) 12 []) := by
        intro t428 t429 t430 A426 c427 w432 h h431
        rw [hJ434] at h
        clear hJ434
        dsimp only at h
        refine RegI.p 5 [(0, .pointer (some ⟨b12, 0, none⟩)), (3, .int .u8 t429), (4, .bool t430)] ?_
        refine RegI.d ?_
        refine RunsI.g 1 [.c 5, .c 6] ?_
        refine RunsI.r ?_
        refine RegI.p 3 [(0, .pointer (some ⟨b12, 0, none⟩)), (3, .int .u8 t429), (4, .bool t430), (13, .pointer (some ⟨b12, 0, none⟩)), (15, .pointer (some ⟨b12, 1, none⟩))] ?_
        refine RegI.o (OpE.loadBox 16 0 3 b12 1 (.int .i64 t377) h431 (by kernel_rfl) (by kernel_rfl) rfl (by kernel_rfl) ?_)
        refine RegI.p 3 [(0, .pointer (some ⟨b12, 0, none⟩)), (3, .int .u8 t429), (4, .bool t430), (17, .int .i64 (IntKind.wrap .i64 (t377 + 1))), (19, .pointer (some ⟨b12, 1, none⟩))] ?_
        refine RegI.o (OpE.storeBox 0 3 b12 1 (.int .i64 (IntKind.wrap .i64 (t377 + 1))) [.func (.func 169) #[] #[.pointer (some ⟨b7, 0, none⟩)], .int .i64 (IntKind.wrap .i64 (t377 + 1)), .bool t378] h431 (by kernel_rfl) (by kernel_rfl) rfl (by kernel_rfl) (by kernel_rfl) (by kernel_rfl) ?_)
        intro w436 h437 hk438
        refine RegI.d ?_
        refine RunsI.g 1 [.c 7, .c 8] ?_
        refine RunsI.r ?_
        refine RegI.p 4 [(3, .int .u8 t429), (4, .bool t430), (20, .pointer (some ⟨b12, 0, none⟩)), (23, .pointer (some ⟨b12, 2, none⟩))] ?_
        refine RegI.o (OpE.loadBox 24 0 4 b12 2 (.bool t378) h437 (by kernel_rfl) (by kernel_rfl) rfl (by kernel_rfl) ?_)
        refine RegI.p 1 [(3, .int .u8 t429), (4, .bool t430), (20, .pointer (some ⟨b12, 0, none⟩)), (25, .bool t378)] ?_
        rcases of_cond h with ⟨hc439, h⟩ | ⟨hc439, h⟩
        ·skip
         refine RegI.f 25 true hc439 ?_
         refine RegI.p 4 [(3, .int .u8 t429), (27, .bool t430), (29, .pointer (some ⟨b12, 2, none⟩))] ?_
         refine RegI.o (OpE.storeBox 0 4 b12 2 (.bool t430) [.func (.func 169) #[] #[.pointer (some ⟨b7, 0, none⟩)], .int .i64 (IntKind.wrap .i64 (t377 + 1)), .bool t430] h437 (by kernel_rfl) (by kernel_rfl) rfl (by kernel_rfl) (by kernel_rfl) (by kernel_rfl) ?_)
         intro w440 h441 hk442
         refine RegI.d ?_
         refine RunsI.g 1 [.c 9, .c 10] ?_
         refine RunsI.r ?_
         refine RegI.p 2 [(2, .int .u8 t429)] ?_
         refine RegI.d ?_
         refine RunsI.t (.int .u8 t429) ?_
         refine cont_mk ?_
         refine RegI.l [12] [(12, .int .u8 t429)] ?_
         exact hj455 t429 t428 t430 A426 c427 w440 h (h441.pick [3, 0, 1, 2, 4] (by decide))
        ·skip
         refine RegI.f 25 false hc439 ?_
         refine RegI.p 4 [(3, .int .u8 t429), (27, .bool false), (29, .pointer (some ⟨b12, 2, none⟩))] ?_
         refine RegI.o (OpE.storeBox 0 4 b12 2 (.bool false) [.func (.func 169) #[] #[.pointer (some ⟨b7, 0, none⟩)], .int .i64 (IntKind.wrap .i64 (t377 + 1)), .bool false] h437 (by kernel_rfl) (by kernel_rfl) rfl (by kernel_rfl) (by kernel_rfl) (by kernel_rfl) ?_)
         intro w443 h444 hk445
         refine RegI.d ?_
         refine RunsI.g 1 [.c 9, .c 10] ?_
         refine RunsI.r ?_
         refine RegI.p 2 [(2, .int .u8 t429)] ?_
         refine RegI.d ?_
         refine RunsI.t (.int .u8 t429) ?_
         refine cont_mk ?_
         refine RegI.l [12] [(12, .int .u8 t429)] ?_
         exact hj455 t429 t428 false A426 c427 w443 h (h444.pick [3, 0, 1, 2, 4] (by decide))
       clear hJ434
       refine RunsI.g 1 [.c 1, .c 2] ?_
       refine RunsI.r ?_
       refine RegI.p 2 [(0, .pointer (some ⟨b7, 0, none⟩))] ?_
       refine RegI.d ?_
       refine RunsI.g 2 [.c 4, .c 5, .c 10] ?_
       refine RunsI.r ?_
       refine RegI.o (OpE.loadBox 4 2 23 b7 0 (.slice A374 t376.length c375) h407 (by kernel_rfl) (by kernel_rfl) rfl (by kernel_rfl) ?_)
       refine RegI.p 2 [(0, .pointer (some ⟨b7, 0, none⟩)), (6, .bool ((t376.length : Int) == 0))] ?_
       refine RegI.d ?_
       rcases of_cond h with ⟨hc412, h⟩ | ⟨hc412, h⟩
       ·skip
        refine RunsI.f 6 true hc412 ?_
        refine RunsI.b true 6 ?_
        refine RunsI.g 1 [.c 7, .c 8, .c 10] ?_
        refine RunsI.r ?_
        refine RegI.p 2 [(1, .int .u8 0), (2, .bool false)] ?_
        refine RegI.d ?_
        refine RunsI.t (.tuple #[.int .u8 0, .bool false]) ?_
        refine cont_mk ?_
        refine RegI.l [0, 10] [(0, .pointer (some ⟨b12, 0, none⟩)), (10, .tuple #[.int .u8 0, .bool false])] ?_
        exact hj435 t376 0 false A374 c375 w405 h (h407.pick [1, 2, 3, 0, 4] (by decide))
       ·skip
        refine RunsI.f 6 false hc412 ?_
        refine RunsI.b false 9 ?_
        refine RunsI.g 1 [.c 10] ?_
        refine RunsI.g 1 [.c 11, .c 12] ?_
        refine RunsI.r ?_
        refine RegI.o (OpE.loadBox 7 2 23 b7 0 (.slice A374 t376.length c375) h407 (by kernel_rfl) (by kernel_rfl) rfl (by kernel_rfl) ?_)
        obtain ⟨hc413, h⟩ := of_cond0 h
        refine RegI.o (OpE.idxSl 8 3 23 0 h407 (by kernel_rfl) rfl (by kernel_rfl) (by kernel_rfl) hc413 ?_)
        intro b414 o415 cs416 hk417 h418
        obtain rfl := hk417
        refine RegI.o (OpE.loadCel 9 5 5 b414 o415 0 (.int .u8 (rdD t376 0)) h418 (by kernel_rfl) (by kernel_rfl) rfl (by kernel_rfl) ?_)
        refine RegI.p 1 [(0, .pointer (some ⟨b7, 0, none⟩)), (3, .int .u8 (rdD t376 0))] ?_
        refine RegI.d ?_
        refine RunsI.g 1 [.c 13, .c 14] ?_
        refine RunsI.r ?_
        refine RegI.o (OpE.loadBox 10 2 23 b7 0 (.slice A374 t376.length c375) h418 (by kernel_rfl) (by kernel_rfl) rfl (by kernel_rfl) ?_)
        obtain ⟨hc419, h⟩ := of_cond0 h
        refine RegI.o (OpE.cutSl 11 3 23 (some 1) none h418 (by kernel_rfl) rfl (by kernel_rfl) (by kernel_rfl) hc419 ?_)
        intro A420 c421 h422
        refine RegI.o (OpE.storeBox 2 23 b7 0 (.slice A420 ((cutL t376 1 (t376.length : Int)).length) c421) [.slice A420 ((cutL t376 1 (t376.length : Int)).length) c421] h422 (by kernel_rfl) (by kernel_rfl) rfl (by kernel_rfl) (by kernel_rfl) (by kernel_rfl) ?_)
        intro w423 h424 hk425
        refine RegI.d ?_
        refine RunsI.g 1 [.c 15, .c 16] ?_
        refine RunsI.r ?_
        refine RegI.p 3 [(1, .int .u8 (rdD t376 0)), (2, .bool true)] ?_
        refine RegI.d ?_
        refine RunsI.t (.tuple #[.int .u8 (rdD t376 0), .bool true]) ?_
        refine cont_mk ?_
        refine RegI.l [0, 10] [(0, .pointer (some ⟨b12, 0, none⟩)), (10, .tuple #[.int .u8 (rdD t376 0), .bool true])] ?_
        exact hj435 (cutL t376 1 (t376.length : Int)) (rdD t376 0) true A420 c421 w423 h (h424.pick [1, 2, 6, 0, 4] (by decide))
      ·skip
       refine RunsI.f 9 false hc411 ?_
       refine RunsI.b false 18 ?_
       refine RunsI.g 1 [.blk 0, .c 19] ?_
       refine RunsI.g 2 [.c 20, .c 21] ?_
       refine RunsI.r ?_
       refine RegI.p 1 [(0, .pointer (some ⟨b12, 0, none⟩)), (14, .pointer (some ⟨b12, 0, none⟩))] ?_
       refine RegI.enter 15 [0] [(0, .pointer (some ⟨b12, 0, none⟩))] (by kernel_rfl) (by kernel_rfl) (by kernel_rfl) (by kernel_rfl) F150 150 rfl [.pointer (some ⟨b12, 0, none⟩)] (by kernel_rfl) (by kernel_rfl) ?_
       obtain ⟨j497, hJ498, h⟩ := of_let h
       have hj499 : ∀ (t492 : List Int) (t493 : Bool) (t494 : Int) (A490 : Option Addr) (c491 : Nat) (w496 : World), j497 (t492, t493, t494) = some r → Holds M0 w0 w496 [box b12 170 [.func (.func 169) #[] #[.pointer (some ⟨b7, 0, none⟩)], .int .i64 (IntKind.wrap .i64 (t377 + 1)), .bool t493], box b7 23 [.slice A490 t492.length c491], sl (Rp.int .u8) (.slice A490 t492.length c491) t492, box b2 51 [.int .i64 0, .int .u8 0, .int .u8 0, .int .u16 0, .int .i64 0, .int .i64 0], box b99 51 [.int .i64 t399, .int .u8 t380, .int .u8 t381, .int .u16 0, .int .i64 0, .int .i64 t382]] → RegI F151 20 [.c 21] 2 [(0, .pointer (some ⟨b12, 0, none⟩)), (15, .int .u8 t494)] w496 (cont (fun e' w' => RegI F133 50 [.c 51] 7 e' w' (decode_Next_133.post M0 w0 r)) 84 [(2, .pointer (some ⟨b2, 0, none⟩)), (4, .pointer (some ⟨b12, 0, none⟩)), (8, .pointer (some ⟨b99, 0, none⟩))]) := by
        intro t492 t493 t494 A490 c491 w496 h h495
        rw [hJ498] at h
        clear hJ498
        dsimp only at h
        refine RegI.p 1 [(0, .pointer (some ⟨b12, 0, none⟩)), (5, .int .u8 t494)] ?_
        refine RegI.d ?_
        refine RunsI.g 1 [.c 22, .c 23] ?_
        refine RunsI.r ?_
        refine RegI.p 1 [(5, .int .u8 t494), (16, .pointer (some ⟨b12, 0, none⟩))] ?_
        refine RegI.enter 17 [5] [(5, .int .u8 t494)] (by kernel_rfl) (by kernel_rfl) (by kernel_rfl) (by kernel_rfl) F150 150 rfl [.pointer (some ⟨b12, 0, none⟩)] (by kernel_rfl) (by kernel_rfl) ?_
        obtain ⟨j541, hJ542, h⟩ := of_let h
        have hj543 : ∀ (t534 : Int) (t537 : List Int) (t538 : Bool) (A535 : Option Addr) (c536 : Nat) (w540 : World), j541 (t534, t537, t538) = some r → Holds M0 w0 w540 [box b2 51 [.int .i64 0, .int .u8 0, .int .u8 0, .int .u16 0, .int .i64 0, .int .i64 0], box b12 170 [.func (.func 169) #[] #[.pointer (some ⟨b7, 0, none⟩)], .int .i64 (IntKind.wrap .i64 ((IntKind.wrap .i64 (t377 + 1)) + 1)), .bool t538], box b7 23 [.slice A535 t537.length c536], sl (Rp.int .u8) (.slice A535 t537.length c536) t537, box b99 51 [.int .i64 t399, .int .u8 t380, .int .u8 t381, .int .u16 0, .int .i64 0, .int .i64 t382]] → RegI F151 22 [.c 23] 2 [(5, .int .u8 t494), (17, .int .u8 t534)] w540 (cont (fun e' w' => RegI F133 50 [.c 51] 7 e' w' (decode_Next_133.post M0 w0 r)) 84 [(2, .pointer (some ⟨b2, 0, none⟩)), (4, .pointer (some ⟨b12, 0, none⟩)), (8, .pointer (some ⟨b99, 0, none⟩))]) := by
         intro t534 t537 t538 A535 c536 w540 h h539
         rw [hJ542] at h
         clear hJ542
         dsimp only at h
         refine RegI.p 1 [(17, .int .u8 t534), (18, .int .u8 t494)] ?_
         obtain ⟨t548, hg547, h⟩ := of_bind h
         refine RegI.o (OpE.call 19 (by kernel_rfl) 36 #[.int .u8 t534, .int .u8 t494] (by kernel_rfl) ((bits_Word_36_ok K _ w540  t534 t494 h539.old' hg547).mono ?_))
         rintro _ w544 ⟨rfl, hb545⟩
         refine ⟨_, rfl, ?_⟩
         have h546 := h539.call hb545
         refine RegI.p 1 [(4, .int .u16 t548)] ?_
         refine RegI.d ?_
         refine RunsI.t (.int .u16 t548) ?_
         refine cont_mk ?_
         refine RegI.l [2, 4, 8, 84] [(2, .pointer (some ⟨b2, 0, none⟩)), (4, .pointer (some ⟨b12, 0, none⟩)), (8, .pointer (some ⟨b99, 0, none⟩)), (84, .int .u16 t548)] ?_
         exact hj559 t537 (IntKind.wrap .i64 ((IntKind.wrap .i64 (t377 + 1)) + 1)) t538 t548 A535 c536 w544 h (h546.pick [0, 1, 2, 3, 4] (by decide))
        clear hJ542
        refine RunsI.g 1 [.c 1, .c 2] ?_
        refine RunsI.r ?_
        refine RegI.p 1 [(0, .pointer (some ⟨b12, 0, none⟩))] ?_
        refine RegI.d ?_
        refine RunsI.g 1 [.c 3, .c 4] ?_
        refine RunsI.r ?_
        refine RegI.p 3 [(0, .pointer (some ⟨b12, 0, none⟩)), (8, .pointer (some ⟨b12, 0, none⟩))] ?_
        refine RegI.o (OpE.loadBox 9 0 167 b12 0 (.func (.func 169) #[] #[.pointer (some ⟨b7, 0, none⟩)]) h495 (by kernel_rfl) (by kernel_rfl) rfl (by kernel_rfl) ?_)
        refine RegI.enter 10 [0] [(0, .pointer (some ⟨b12, 0, none⟩))] (by kernel_rfl) (by kernel_rfl) (by kernel_rfl) (by kernel_rfl) F169 169 rfl [.pointer (some ⟨b7, 0, none⟩)] (by kernel_rfl) (by kernel_rfl) ?_
        obtain ⟨j521, hJ522, h⟩ := of_let h
        have hj523 : ∀ (t516 : List Int) (t517 : Int) (t518 : Bool) (A514 : Option Addr) (c515 : Nat) (w520 : World), j521 (t516, t517, t518) = some r → Holds M0 w0 w520 [box b12 170 [.func (.func 169) #[] #[.pointer (some ⟨b7, 0, none⟩)], .int .i64 (IntKind.wrap .i64 (t377 + 1)), .bool t493], box b7 23 [.slice A514 t516.length c515], sl (Rp.int .u8) (.slice A514 t516.length c515) t516, box b2 51 [.int .i64 0, .int .u8 0, .int .u8 0, .int .u16 0, .int .i64 0, .int .i64 0], box b99 51 [.int .i64 t399, .int .u8 t380, .int .u8 t381, .int .u16 0, .int .i64 0, .int .i64 t382]] → RegI F150 3 [.c 4] 5 [(0, .pointer (some ⟨b12, 0, none⟩)), (10, .tuple #[.int .u8 t517, .bool t518])] w520 (cont (fun e' w' => RegI F151 22 [.c 23] 2 e' w' (cont (fun e' w' => RegI F133 50 [.c 51] 7 e' w' (decode_Next_133.post M0 w0 r)) 84 [(2, .pointer (some ⟨b2, 0, none⟩)), (4, .pointer (some ⟨b12, 0, none⟩)), (8, .pointer (some ⟨b99, 0, none⟩))])) 17 [(5, .int .u8 t494)]) := by
         intro t516 t517 t518 A514 c515 w520 h h519
         rw [hJ522] at h
         clear hJ522
         dsimp only at h
         refine RegI.p 5 [(0, .pointer (some ⟨b12, 0, none⟩)), (3, .int .u8 t517), (4, .bool t518)] ?_
         refine RegI.d ?_
         refine RunsI.g 1 [.c 5, .c 6] ?_
         refine RunsI.r ?_
         refine RegI.p 3 [(0, .pointer (some ⟨b12, 0, none⟩)), (3, .int .u8 t517), (4, .bool t518), (13, .pointer (some ⟨b12, 0, none⟩)), (15, .pointer (some ⟨b12, 1, none⟩))] ?_
         refine RegI.o (OpE.loadBox 16 0 3 b12 1 (.int .i64 (IntKind.wrap .i64 (t377 + 1))) h519 (by kernel_rfl) (by kernel_rfl) rfl (by kernel_rfl) ?_)
         refine RegI.p 3 [(0, .pointer (some ⟨b12, 0, none⟩)), (3, .int .u8 t517), (4, .bool t518), (17, .int .i64 (IntKind.wrap .i64 ((IntKind.wrap .i64 (t377 + 1)) + 1))), (19, .pointer (some ⟨b12, 1, none⟩))] ?_
         refine RegI.o (OpE.storeBox 0 3 b12 1 (.int .i64 (IntKind.wrap .i64 ((IntKind.wrap .i64 (t377 + 1)) + 1))) [.func (.func 169) #[] #[.pointer (some ⟨b7, 0, none⟩)], .int .i64 (IntKind.wrap .i64 ((IntKind.wrap .i64 (t377 + 1)) + 1)), .bool t493] h519 (by kernel_rfl) (by kernel_rfl) rfl (by kernel_rfl) (by kernel_rfl) (by kernel_rfl) ?_)
         intro w524 h525 hk526
         refine RegI.d ?_
         refine RunsI.g 1 [.c 7, .c 8] ?_
         refine RunsI.r ?_
         refine RegI.p 4 [(3, .int .u8 t517), (4, .bool t518), (20, .pointer (some ⟨b12, 0, none⟩)), (23, .pointer (some ⟨b12, 2, none⟩))] ?_
         refine RegI.o (OpE.loadBox 24 0 4 b12 2 (.bool t493) h525 (by kernel_rfl) (by kernel_rfl) rfl (by kernel_rfl) ?_)
         refine RegI.p 1 [(3, .int .u8 t517), (4, .bool t518), (20, .pointer (some ⟨b12, 0, none⟩)), (25, .bool t493)] ?_
         rcases of_cond h with ⟨hc527, h⟩ | ⟨hc527, h⟩
         ·skip
          refine RegI.f 25 true hc527 ?_
          refine RegI.p 4 [(3, .int .u8 t517), (27, .bool t518), (29, .pointer (some ⟨b12, 2, none⟩))] ?_
          refine RegI.o (OpE.storeBox 0 4 b12 2 (.bool t518) [.func (.func 169) #[] #[.pointer (some ⟨b7, 0, none⟩)], .int .i64 (IntKind.wrap .i64 ((IntKind.wrap .i64 (t377 + 1)) + 1)), .bool t518] h525 (by kernel_rfl) (by kernel_rfl) rfl (by kernel_rfl) (by kernel_rfl) (by kernel_rfl) ?_)
          intro w528 h529 hk530
          refine RegI.d ?_
          refine RunsI.g 1 [.c 9, .c 10] ?_
          refine RunsI.r ?_
          refine RegI.p 2 [(2, .int .u8 t517)] ?_
          refine RegI.d ?_
          refine RunsI.t (.int .u8 t517) ?_
          refine cont_mk ?_
          refine RegI.l [5, 17] [(5, .int .u8 t494), (17, .int .u8 t517)] ?_
          exact hj543 t517 t516 t518 A514 c515 w528 h (h529.pick [3, 0, 1, 2, 4] (by decide))
         ·skip
          refine RegI.f 25 false hc527 ?_
          refine RegI.p 4 [(3, .int .u8 t517), (27, .bool false), (29, .pointer (some ⟨b12, 2, none⟩))] ?_
          refine RegI.o (OpE.storeBox 0 4 b12 2 (.bool false) [.func (.func 169) #[] #[.pointer (some ⟨b7, 0, none⟩)], .int .i64 (IntKind.wrap .i64 ((IntKind.wrap .i64 (t377 + 1)) + 1)), .bool false] h525 (by kernel_rfl) (by kernel_rfl) rfl (by kernel_rfl) (by kernel_rfl) (by kernel_rfl) ?_)
          intro w531 h532 hk533
          refine RegI.d ?_
          refine RunsI.g 1 [.c 9, .c 10] ?_
          refine RunsI.r ?_
          refine RegI.p 2 [(2, .int .u8 t517)] ?_
          refine RegI.d ?_
          refine RunsI.t (.int .u8 t517) ?_
          refine cont_mk ?_
          refine RegI.l [5, 17] [(5, .int .u8 t494), (17, .int .u8 t517)] ?_
          exact hj543 t517 t516 false A514 c515 w531 h (h532.pick [3, 0, 1, 2, 4] (by decide))
        clear hJ522
        refine RunsI.g 1 [.c 1, .c 2] ?_
        refine RunsI.r ?_
        refine RegI.p 2 [(0, .pointer (some ⟨b7, 0, none⟩))] ?_
        refine RegI.d ?_
        refine RunsI.g 2 [.c 4, .c 5, .c 10] ?_
        refine RunsI.r ?_
        refine RegI.o (OpE.loadBox 4 1 23 b7 0 (.slice A490 t492.length c491) h495 (by kernel_rfl) (by kernel_rfl) rfl (by kernel_rfl) ?_)
        refine RegI.p 2 [(0, .pointer (some ⟨b7, 0, none⟩)), (6, .bool ((t492.length : Int) == 0))] ?_
        refine RegI.d ?_
        rcases of_cond h with ⟨hc500, h⟩ | ⟨hc500, h⟩
        ·skip
         refine RunsI.f 6 true hc500 ?_
         refine RunsI.b true 6 ?_
         refine RunsI.g 1 [.c 7, .c 8, .c 10] ?_
         refine RunsI.r ?_
         refine RegI.p 2 [(1, .int .u8 0), (2, .bool false)] ?_
         refine RegI.d ?_
         refine RunsI.t (.tuple #[.int .u8 0, .bool false]) ?_
         refine cont_mk ?_
         refine RegI.l [0, 10] [(0, .pointer (some ⟨b12, 0, none⟩)), (10, .tuple #[.int .u8 0, .bool false])] ?_
         exact hj523 t492 0 false A490 c491 w496 h (h495.pick [0, 1, 2, 3, 4] (by decide))
        ·skip
         refine RunsI.f 6 false hc500 ?_
         refine RunsI.b false 9 ?_
         refine RunsI.g 1 [.c 10] ?_
         refine RunsI.g 1 [.c 11, .c 12] ?_
         refine RunsI.r ?_
         refine RegI.o (OpE.loadBox 7 1 23 b7 0 (.slice A490 t492.length c491) h495 (by kernel_rfl) (by kernel_rfl) rfl (by kernel_rfl) ?_)
         obtain ⟨hc501, h⟩ := of_cond0 h
         refine RegI.o (OpE.idxSl 8 2 23 0 h495 (by kernel_rfl) rfl (by kernel_rfl) (by kernel_rfl) hc501 ?_)
         intro b502 o503 cs504 hk505 h506
         obtain rfl := hk505
         refine RegI.o (OpE.loadCel 9 5 5 b502 o503 0 (.int .u8 (rdD t492 0)) h506 (by kernel_rfl) (by kernel_rfl) rfl (by kernel_rfl) ?_)
         refine RegI.p 1 [(0, .pointer (some ⟨b7, 0, none⟩)), (3, .int .u8 (rdD t492 0))] ?_
         refine RegI.d ?_
         refine RunsI.g 1 [.c 13, .c 14] ?_
         refine RunsI.r ?_
         refine RegI.o (OpE.loadBox 10 1 23 b7 0 (.slice A490 t492.length c491) h506 (by kernel_rfl) (by kernel_rfl) rfl (by kernel_rfl) ?_)
         obtain ⟨hc507, h⟩ := of_cond0 h
         refine RegI.o (OpE.cutSl 11 2 23 (some 1) none h506 (by kernel_rfl) rfl (by kernel_rfl) (by kernel_rfl) hc507 ?_)
         intro A508 c509 h510
         refine RegI.o (OpE.storeBox 1 23 b7 0 (.slice A508 ((cutL t492 1 (t492.length : Int)).length) c509) [.slice A508 ((cutL t492 1 (t492.length : Int)).length) c509] h510 (by kernel_rfl) (by kernel_rfl) rfl (by kernel_rfl) (by kernel_rfl) (by kernel_rfl) ?_)
         intro w511 h512 hk513
         refine RegI.d ?_
         refine RunsI.g 1 [.c 15, .c 16] ?_
         refine RunsI.r ?_
         refine RegI.p 3 [(1, .int .u8 (rdD t492 0)), (2, .bool true)] ?_
         refine RegI.d ?_
         refine RunsI.t (.tuple #[.int .u8 (rdD t492 0), .bool true]) ?_
         refine cont_mk ?_
         refine RegI.l [0, 10] [(0, .pointer (some ⟨b12, 0, none⟩)), (10, .tuple #[.int .u8 (rdD t492 0), .bool true])] ?_
         exact hj523 (cutL t492 1 (t492.length : Int)) (rdD t492 0) true A508 c509 w511 h (h512.pick [0, 1, 6, 3, 4] (by decide))
       clear hJ498
       refine RunsI.g 1 [.c 1, .c 2] ?_
       refine RunsI.r ?_
       refine RegI.p 1 [(0, .pointer (some ⟨b12, 0, none⟩))] ?_
       refine RegI.d ?_
       refine RunsI.g 1 [.c 3, .c 4] ?_
       refine RunsI.r ?_
       refine RegI.p 3 [(0, .pointer (some ⟨b12, 0, none⟩)), (8, .pointer (some ⟨b12, 0, none⟩))] ?_
       refine RegI.o (OpE.loadBox 9 1 167 b12 0 (.func (.func 169) #[] #[.pointer (some ⟨b7, 0, none⟩)]) h407 (by kernel_rfl) (by kernel_rfl) rfl (by kernel_rfl) ?_)
       refine RegI.enter 10 [0] [(0, .pointer (some ⟨b12, 0, none⟩))] (by kernel_rfl) (by kernel_rfl) (by kernel_rfl) (by kernel_rfl) F169 169 rfl [.pointer (some ⟨b7, 0, none⟩)] (by kernel_rfl) (by kernel_rfl) ?_
       obtain ⟨j477, hJ478, h⟩ := of_let h
       have hj479 : ∀ (t472 : List Int) (t473 : Int) (t474 : Bool) (A470 : Option Addr) (c471 : Nat) (w476 : World), j477 (t472, t473, t474) = some r → Holds M0 w0 w476 [box b12 170 [.func (.func 169) #[] #[.pointer (some ⟨b7, 0, none⟩)], .int .i64 t377, .bool t378], box b7 23 [.slice A470 t472.length c471], sl (Rp.int .u8) (.slice A470 t472.length c471) t472, box b2 51 [.int .i64 0, .int .u8 0, .int .u8 0, .int .u16 0, .int .i64 0, .int .i64 0], box b99 51 [.int .i64 t399, .int .u8 t380, .int .u8 t381, .int .u16 0, .int .i64 0, .int .i64 t382]] → RegI F150 3 [.c 4] 5 [(0, .pointer (some ⟨b12, 0, none⟩)), (10, .tuple #[.int .u8 t473, .bool t474])] w476 (cont (fun e' w' => RegI F151 20 [.c 21] 2 e' w' (cont (fun e' w' => RegI F133 50 [.c 51] 7 e' w' (decode_Next_133.post M0 w0 r)) 84 [(2, .pointer (some ⟨b2, 0, none⟩)), (4, .pointer (some ⟨b12, 0, none⟩)), (8, .pointer (some ⟨b99, 0, none⟩))])) 15 [(0, .pointer (some ⟨b12, 0, none⟩))]) := by
        intro t472 t473 t474 A470 c471 w476 h h475
        rw [hJ478] at h
        clear hJ478
        dsimp only at h
        refine RegI.p 5 [(0, .pointer (some ⟨b12, 0, none⟩)), (3, .int .u8 t473), (4, .bool t474)] ?_
        refine RegI.d ?_
        refine RunsI.g 1 [.c 5, .c 6] ?_
        refine RunsI.r ?_
        refine RegI.p 3 [(0, .pointer (some ⟨b12, 0, none⟩)), (3, .int .u8 t473), (4, .bool t474), (13, .pointer (some ⟨b12, 0, none⟩)), (15, .pointer (some ⟨b12, 1, none⟩))] ?_
        refine RegI.o (OpE.loadBox 16 0 3 b12 1 (.int .i64 t377) h475 (by kernel_rfl) (by kernel_rfl) rfl (by kernel_rfl) ?_)
        refine RegI.p 3 [(0, .pointer (some ⟨b12, 0, none⟩)), (3, .int .u8 t473), (4, .bool t474), (17, .int .i64 (IntKind.wrap .i64 (t377 + 1))), (19, .pointer (some ⟨b12, 1, none⟩))] ?_
        refine RegI.o (OpE.storeBox 0 3 b12 1 (.int .i64 (IntKind.wrap .i64 (t377 + 1))) [.func (.func 169) #[] #[.pointer (some ⟨b7, 0, none⟩)], .int .i64 (IntKind.wrap .i64 (t377 + 1)), .bool t378] h475 (by kernel_rfl) (by kernel_rfl) rfl (by kernel_rfl) (by kernel_rfl) (by kernel_rfl) ?_)
        intro w480 h481 hk482
        refine RegI.d ?_
        refine RunsI.g 1 [.c 7, .c 8] ?_
        refine RunsI.r ?_
        refine RegI.p 4 [(3, .int .u8 t473), (4, .bool t474), (20, .pointer (some ⟨b12, 0, none⟩)), (23, .pointer (some ⟨b12, 2, none⟩))] ?_
        refine RegI.o (OpE.loadBox 24 0 4 b12 2 (.bool t378) h481 (by kernel_rfl) (by kernel_rfl) rfl (by kernel_rfl) ?_)
        refine RegI.p 1 [(3, .int .u8 t473), (4, .bool t474), (20, .pointer (some ⟨b12, 0, none⟩)), (25, .bool t378)] ?_
        rcases of_cond h with ⟨hc483, h⟩ | ⟨hc483, h⟩
        ·skip
         refine RegI.f 25 true hc483 ?_
         refine RegI.p 4 [(3, .int .u8 t473), (27, .bool t474), (29, .pointer (some ⟨b12, 2, none⟩))] ?_
         refine RegI.o (OpE.storeBox 0 4 b12 2 (.bool t474) [.func (.func 169) #[] #[.pointer (some ⟨b7, 0, none⟩)], .int .i64 (IntKind.wrap .i64 (t377 + 1)), .bool t474] h481 (by kernel_rfl) (by kernel_rfl) rfl (by kernel_rfl) (by kernel_rfl) (by kernel_rfl) ?_)
         intro w484 h485 hk486
         refine RegI.d ?_
         refine RunsI.g 1 [.c 9, .c 10] ?_
         refine RunsI.r ?_
         refine RegI.p 2 [(2, .int .u8 t473)] ?_
         refine RegI.d ?_
         refine RunsI.t (.int .u8 t473) ?_
         refine cont_mk ?_
         refine RegI.l [0, 15] [(0, .pointer (some ⟨b12, 0, none⟩)), (15, .int .u8 t473)] ?_
         exact hj499 t472 t474 t473 A470 c471 w484 h (h485.pick [0, 1, 2, 3, 4] (by decide))
        ·skip
         refine RegI.f 25 false hc483 ?_
         refine RegI.p 4 [(3, .int .u8 t473), (27, .bool false), (29, .pointer (some ⟨b12, 2, none⟩))] ?_
         refine RegI.o (OpE.storeBox 0 4 b12 2 (.bool false) [.func (.func 169) #[] #[.pointer (some ⟨b7, 0, none⟩)], .int .i64 (IntKind.wrap .i64 (t377 + 1)), .bool false] h481 (by kernel_rfl) (by kernel_rfl) rfl (by kernel_rfl) (by kernel_rfl) (by kernel_rfl) ?_)
         intro w487 h488 hk489
         refine RegI.d ?_
         refine RunsI.g 1 [.c 9, .c 10] ?_
         refine RunsI.r ?_
         refine RegI.p 2 [(2, .int .u8 t473)] ?_
         refine RegI.d ?_
         refine RunsI.t (.int .u8 t473) ?_
         refine cont_mk ?_
         refine RegI.l [0, 15] [(0, .pointer (some ⟨b12, 0, none⟩)), (15, .int .u8 t473)] ?_
         exact hj499 t472 false t473 A470 c471 w487 h (h488.pick [0, 1, 2, 3, 4] (by decide))
       clear hJ478
       refine RunsI.g 1 [.c 1, .c 2] ?_
       refine RunsI.r ?_
       refine RegI.p 2 [(0, .pointer (some ⟨b7, 0, none⟩))] ?_
       refine RegI.d ?_
       refine RunsI.g 2 [.c 4, .c 5, .c 10] ?_
       refine RunsI.r ?_
       refine RegI.o (OpE.loadBox 4 2 23 b7 0 (.slice A374 t376.length c375) h407 (by kernel_rfl) (by kernel_rfl) rfl (by kernel_rfl) ?_)
       refine RegI.p 2 [(0, .pointer (some ⟨b7, 0, none⟩)), (6, .bool ((t376.length : Int) == 0))] ?_
       refine RegI.d ?_
       rcases of_cond h with ⟨hc456, h⟩ | ⟨hc456, h⟩
       ·skip
        refine RunsI.f 6 true hc456 ?_
        refine RunsI.b true 6 ?_
        refine RunsI.g 1 [.c 7, .c 8, .c 10] ?_
        refine RunsI.r ?_
        refine RegI.p 2 [(1, .int .u8 0), (2, .bool false)] ?_
        refine RegI.d ?_
        refine RunsI.t (.tuple #[.int .u8 0, .bool false]) ?_
        refine cont_mk ?_
        refine RegI.l [0, 10] [(0, .pointer (some ⟨b12, 0, none⟩)), (10, .tuple #[.int .u8 0, .bool false])] ?_
        exact hj479 t376 0 false A374 c375 w405 h (h407.pick [1, 2, 3, 0, 4] (by decide))
       ·skip
        refine RunsI.f 6 false hc456 ?_
        refine RunsI.b false 9 ?_
        refine RunsI.g 1 [.c 10] ?_
        refine RunsI.g 1 [.c 11, .c 12] ?_
        refine RunsI.r ?_
        refine RegI.o (OpE.loadBox 7 2 23 b7 0 (.slice A374 t376.length c375) h407 (by kernel_rfl) (by kernel_rfl) rfl (by kernel_rfl) ?_)
        obtain ⟨hc457, h⟩ := of_cond0 h
        refine RegI.o (OpE.idxSl 8 3 23 0 h407 (by kernel_rfl) rfl (by kernel_rfl) (by kernel_rfl) hc457 ?_)
        intro b458 o459 cs460 hk461 h462
        obtain rfl := hk461
        refine RegI.o (OpE.loadCel 9 5 5 b458 o459 0 (.int .u8 (rdD t376 0)) h462 (by kernel_rfl) (by kernel_rfl) rfl (by kernel_rfl) ?_)
        refine RegI.p 1 [(0, .pointer (some ⟨b7, 0, none⟩)), (3, .int .u8 (rdD t376 0))] ?_
        refine RegI.d ?_
        refine RunsI.g 1 [.c 13, .c 14] ?_
        refine RunsI.r ?_
        refine RegI.o (OpE.loadBox 10 2 23 b7 0 (.slice A374 t376.length c375) h462 (by kernel_rfl) (by kernel_rfl) rfl (by kernel_rfl) ?_)
        obtain ⟨hc463, h⟩ := of_cond0 h
        refine RegI.o (OpE.cutSl 11 3 23 (some 1) none h462 (by kernel_rfl) rfl (by kernel_rfl) (by kernel_rfl) hc463 ?_)
        intro A464 c465 h466
        refine RegI.o (OpE.storeBox 2 23 b7 0 (.slice A464 ((cutL t376 1 (t376.length : Int)).length) c465) [.slice A464 ((cutL t376 1 (t376.length : Int)).length) c465] h466 (by kernel_rfl) (by kernel_rfl) rfl (by kernel_rfl) (by kernel_rfl) (by kernel_rfl) ?_)
        intro w467 h468 hk469
        refine RegI.d ?_
        refine RunsI.g 1 [.c 15, .c 16] ?_
        refine RunsI.r ?_
        refine RegI.p 3 [(1, .int .u8 (rdD t376 0)), (2, .bool true)] ?_
        refine RegI.d ?_
        refine RunsI.t (.tuple #[.int .u8 (rdD t376 0), .bool true]) ?_
        refine cont_mk ?_
        refine RegI.l [0, 10] [(0, .pointer (some ⟨b12, 0, none⟩)), (10, .tuple #[.int .u8 (rdD t376 0), .bool true])] ?_
        exact hj479 (cutL t376 1 (t376.length : Int)) (rdD t376 0) true A464 c465 w467 h (h468.pick [1, 2, 6, 0, 4] (by decide))
    clear hJ403
    rcases of_cond h with ⟨hc395, h⟩ | ⟨hc395, h⟩
    ·skip
     refine RunsI.f 73 true hc395 ?_
     refine RunsI.b true 47 ?_
     refine RunsI.r ?_
     refine RegI.p 1 [(2, .pointer (some ⟨b2, 0, none⟩)), (4, .pointer (some ⟨b12, 0, none⟩)), (8, .pointer (some ⟨b99, 0, none⟩)), (74, .pointer (some ⟨b99, 0, none⟩))] ?_
     refine RegI.o (OpE.loadBox 75 4 3 b99 0 (.int .i64 t379) h390 (by kernel_rfl) (by kernel_rfl) rfl (by kernel_rfl) ?_)
     refine RegI.p 2 [(2, .pointer (some ⟨b2, 0, none⟩)), (4, .pointer (some ⟨b12, 0, none⟩)), (8, .pointer (some ⟨b99, 0, none⟩)), (76, .int .i64 (IntKind.wrap .i64 (t379 + 1))), (77, .pointer (some ⟨b99, 0, none⟩))] ?_
     refine RegI.o (OpE.storeBox 4 3 b99 0 (.int .i64 (IntKind.wrap .i64 (t379 + 1))) [.int .i64 (IntKind.wrap .i64 (t379 + 1)), .int .u8 t380, .int .u8 t381, .int .u16 0, .int .i64 0, .int .i64 t382] h390 (by kernel_rfl) (by kernel_rfl) rfl (by kernel_rfl) (by kernel_rfl) (by kernel_rfl) ?_)
     intro w396 h397 hk398
     refine RegI.d ?_
     refine RunsI.l [2, 4, 8] [(2, .pointer (some ⟨b2, 0, none⟩)), (4, .pointer (some ⟨b12, 0, none⟩)), (8, .pointer (some ⟨b99, 0, none⟩))] ?_
     exact hj404 (IntKind.wrap .i64 (t379 + 1)) w396 h (h397.pick [0, 1, 2, 3, 4] (by decide))
    ·skip
     refine RunsI.f 73 false hc395 ?_
     refine RunsI.b false 48 ?_
     refine RunsI.g 1 [.c 49] ?_
     refine RunsI.l [2, 4, 8] [(2, .pointer (some ⟨b2, 0, none⟩)), (4, .pointer (some ⟨b12, 0, none⟩)), (8, .pointer (some ⟨b99, 0, none⟩))] ?_
     exact hj404 t379 w391 h (h390.pick [0, 1, 2, 3, 4] (by decide))
   clear hJ393
   rcases of_cond h with ⟨hc388, h⟩ | ⟨hc388, h⟩
   ·skip
    refine RegI.f 69 true hc388 ?_
    refine RegI.p 1 [(2, .pointer (some ⟨b2, 0, none⟩)), (4, .pointer (some ⟨b12, 0, none⟩)), (8, .pointer (some ⟨b99, 0, none⟩)), (69, .bool true), (70, .pointer (some ⟨b99, 0, none⟩))] ?_
    refine RegI.o (OpE.loadBox 71 4 3 b99 0 (.int .i64 t379) h383 (by kernel_rfl) (by kernel_rfl) rfl (by kernel_rfl) ?_)
    refine RegI.p 2 [(2, .pointer (some ⟨b2, 0, none⟩)), (4, .pointer (some ⟨b12, 0, none⟩)), (8, .pointer (some ⟨b99, 0, none⟩)), (73, .bool (t379 != 2))] ?_
    refine RegI.l [2, 4, 8, 73] [(2, .pointer (some ⟨b2, 0, none⟩)), (4, .pointer (some ⟨b12, 0, none⟩)), (8, .pointer (some ⟨b99, 0, none⟩)), (73, .bool (t379 != 2))] ?_
    exact hj394 (t379 != 2) w384 h (h383.pick [0, 1, 2, 3, 4] (by decide))
   ·skip
    refine RegI.f 69 false hc388 ?_
    refine RegI.p 4 [(2, .pointer (some ⟨b2, 0, none⟩)), (4, .pointer (some ⟨b12, 0, none⟩)), (8, .pointer (some ⟨b99, 0, none⟩)), (73, .bool false)] ?_
    refine RegI.l [2, 4, 8, 73] [(2, .pointer (some ⟨b2, 0, none⟩)), (4, .pointer (some ⟨b12, 0, none⟩)), (8, .pointer (some ⟨b99, 0, none⟩)), (73, .bool false)] ?_
    exact hj394 false w384 h (h383.pick [0, 1, 2, 3, 4] (by decide))
  clear hJ386
  rcases of_cond h with ⟨hc106, h⟩ | ⟨hc106, h⟩
  ·skip
   refine RunsI.f 22 true hc106 ?_
   refine RunsI.b true 13 ?_
   refine RunsI.g 1 [.c 14, .c 15, .blk 0, .c 43] ?_
   refine RunsI.r ?_
   refine RegI.p 1 [(2, .pointer (some ⟨b2, 0, none⟩)), (4, .pointer (some ⟨b12, 0, none⟩)), (5, .int .u8 t88), (8, .pointer (some ⟨b99, 0, none⟩)), (25, .pointer (some ⟨b12, 0, none⟩))] ?_
   refine RegI.enter 26 [2, 4, 5, 8] [(2, .pointer (some ⟨b2, 0, none⟩)), (4, .pointer (some ⟨b12, 0, none⟩)), (5, .int .u8 t88), (8, .pointer (some ⟨b99, 0, none⟩))] (by kernel_rfl) (by kernel_rfl) (by kernel_rfl) (by kernel_rfl) F150 150 rfl [.pointer (some ⟨b12, 0, none⟩)] (by kernel_rfl) (by kernel_rfl) ?_
   obtain ⟨j148, hJ149, h⟩ := of_let h
   have hj150 : ∀ (t143 : List Int) (t144 : Bool) (t145 : Int) (A141 : Option Addr) (c142 : Nat) (w147 : World), j148 (t143, t144, t145) = some r → Holds M0 w0 w147 [box b2 51 [.int .i64 0, .int .u8 0, .int .u8 0, .int .u16 0, .int .i64 0, .int .i64 0], box b12 170 [.func (.func 169) #[] #[.pointer (some ⟨b7, 0, none⟩)], .int .i64 (IntKind.wrap .i64 (t94 + 1)), .bool t144], box b7 23 [.slice A141 t143.length c142], sl (Rp.int .u8) (.slice A141 t143.length c142) t143, box b99 51 [.int .i64 0, .int .u8 t89, .int .u8 0, .int .u16 0, .int .i64 0, .int .i64 t90]] → RegI F133 14 [.c 15, .blk 0, .c 43] 2 [(2, .pointer (some ⟨b2, 0, none⟩)), (4, .pointer (some ⟨b12, 0, none⟩)), (5, .int .u8 t88), (8, .pointer (some ⟨b99, 0, none⟩)), (26, .int .u8 t145)] w147 (decode_Next_133.post M0 w0 r) := by
    intro t143 t144 t145 A141 c142 w147 h h146
    rw [hJ149] at h
    clear hJ149
    dsimp only at h
    refine RegI.p 1 [(2, .pointer (some ⟨b2, 0, none⟩)), (4, .pointer (some ⟨b12, 0, none⟩)), (5, .int .u8 t88), (8, .pointer (some ⟨b99, 0, none⟩)), (26, .int .u8 t145), (27, .pointer (some ⟨b99, 0, none⟩))] ?_
    refine RegI.o (OpE.storeBox 4 3 b99 0 (.int .i64 2) [.int .i64 2, .int .u8 t89, .int .u8 0, .int .u16 0, .int .i64 0, .int .i64 t90] h146 (by kernel_rfl) (by kernel_rfl) rfl (by kernel_rfl) (by kernel_rfl) (by kernel_rfl) ?_)
    intro w151 h152 hk153
    refine RegI.p 1 [(2, .pointer (some ⟨b2, 0, none⟩)), (4, .pointer (some ⟨b12, 0, none⟩)), (5, .int .u8 t88), (8, .pointer (some ⟨b99, 0, none⟩)), (26, .int .u8 t145), (28, .pointer (some ⟨b99, 1, none⟩))] ?_
    refine RegI.o (OpE.storeBox 4 5 b99 1 (.int .u8 t145) [.int .i64 2, .int .u8 t145, .int .u8 0, .int .u16 0, .int .i64 0, .int .i64 t90] h152 (by kernel_rfl) (by kernel_rfl) rfl (by kernel_rfl) (by kernel_rfl) (by kernel_rfl) ?_)
    intro w154 h155 hk156
    refine RegI.d ?_
    refine RunsI.g 1 [.c 16, .c 17, .blk 0, .c 43] ?_
    refine RunsI.r ?_
    refine RegI.p 2 [(2, .pointer (some ⟨b2, 0, none⟩)), (4, .pointer (some ⟨b12, 0, none⟩)), (5, .int .u8 t88), (8, .pointer (some ⟨b99, 0, none⟩)), (30, .bool (t88 != 0))] ?_
    refine RegI.d ?_
    rcases of_cond h with ⟨hc157, h⟩ | ⟨hc157, h⟩
    ·skip
     refine RunsI.f 30 true hc157 ?_
     refine RunsI.b true 18 ?_
     refine RunsI.r ?_
     refine RegI.p 1 [(2, .pointer (some ⟨b2, 0, none⟩)), (4, .pointer (some ⟨b12, 0, none⟩)), (5, .int .u8 t88), (8, .pointer (some ⟨b99, 0, none⟩)), (31, .pointer (some ⟨b99, 5, none⟩))] ?_
     refine RegI.o (OpE.loadBox 32 4 3 b99 5 (.int .i64 t90) h155 (by kernel_rfl) (by kernel_rfl) rfl (by kernel_rfl) ?_)
     refine RegI.p 2 [(2, .pointer (some ⟨b2, 0, none⟩)), (4, .pointer (some ⟨b12, 0, none⟩)), (5, .int .u8 t88), (8, .pointer (some ⟨b99, 0, none⟩)), (33, .int .i64 (IntKind.wrap .i64 (t90 + 1))), (34, .pointer (some ⟨b99, 5, none⟩))] ?_
     refine RegI.o (OpE.storeBox 4 3 b99 5 (.int .i64 (IntKind.wrap .i64 (t90 + 1))) [.int .i64 2, .int .u8 t145, .int .u8 0, .int .u16 0, .int .i64 0, .int .i64 (IntKind.wrap .i64 (t90 + 1))] h155 (by kernel_rfl) (by kernel_rfl) rfl (by kernel_rfl) (by kernel_rfl) (by kernel_rfl) ?_)
     intro w158 h159 hk160
     refine RegI.d ?_
     refine RunsI.l [2, 4, 5, 8] [(2, .pointer (some ⟨b2, 0, none⟩)), (4, .pointer (some ⟨b12, 0, none⟩)), (5, .int .u8 t88), (8, .pointer (some ⟨b99, 0, none⟩))] ?_
     exact hj387 t143 (IntKind.wrap .i64 (t94 + 1)) t144 2 t145 0 (IntKind.wrap .i64 (t90 + 1)) A141 c142 w158 h (h159.pick [0, 1, 2, 3, 4] (by decide))
    ·skip
     refine RunsI.f 30 false hc157 ?_
     refine RunsI.b false 19 ?_
     refine RunsI.g 1 [.blk 0, .c 43] ?_
     refine RunsI.l [2, 4, 5, 8] [(2, .pointer (some ⟨b2, 0, none⟩)), (4, .pointer (some ⟨b12, 0, none⟩)), (5, .int .u8 t88), (8, .pointer (some ⟨b99, 0, none⟩))] ?_
     exact hj387 t143 (IntKind.wrap .i64 (t94 + 1)) t144 2 t145 0 t90 A141 c142 w154 h (h155.pick [0, 1, 2, 3, 4] (by decide))
   clear hJ149
   refine RunsI.g 1 [.c 1, .c 2] ?_
   refine RunsI.r ?_
   refine RegI.p 1 [(0, .pointer (some ⟨b12, 0, none⟩))] ?_
   refine RegI.d ?_
   refine RunsI.g 1 [.c 3, .c 4] ?_
   refine RunsI.r ?_
   refine RegI.p 3 [(0, .pointer (some ⟨b12, 0, none⟩)), (8, .pointer (some ⟨b12, 0, none⟩))] ?_
   refine RegI.o (OpE.loadBox 9 1 167 b12 0 (.func (.func 169) #[] #[.pointer (some ⟨b7, 0, none⟩)]) h104 (by kernel_rfl) (by kernel_rfl) rfl (by kernel_rfl) ?_)
   refine RegI.enter 10 [0] [(0, .pointer (some ⟨b12, 0, none⟩))] (by kernel_rfl) (by kernel_rfl) (by kernel_rfl) (by kernel_rfl) F169 169 rfl [.pointer (some ⟨b7, 0, none⟩)] (by kernel_rfl) (by kernel_rfl) ?_
   obtain ⟨j128, hJ129, h⟩ := of_let h
   have hj130 : ∀ (t123 : List Int) (t124 : Int) (t125 : Bool) (A121 : Option Addr) (c122 : Nat) (w127 : World), j128 (t123, t124, t125) = some r → Holds M0 w0 w127 [box b12 170 [.func (.func 169) #[] #[.pointer (some ⟨b7, 0, none⟩)], .int .i64 t94, .bool t95], box b7 23 [.slice A121 t123.length c122], sl (Rp.int .u8) (.slice A121 t123.length c122) t123, box b2 51 [.int .i64 0, .int .u8 0, .int .u8 0, .int .u16 0, .int .i64 0, .int .i64 0], box b99 51 [.int .i64 0, .int .u8 t89, .int .u8 0, .int .u16 0, .int .i64 0, .int .i64 t90]] → RegI F150 3 [.c 4] 5 [(0, .pointer (some ⟨b12, 0, none⟩)), (10, .tuple #[.int .u8 t124, .bool t125])] w127 (cont (fun e' w' => RegI F133 14 [.c 15, .blk 0, .c 43] 2 e' w' (decode_Next_133.post M0 w0 r)) 26 [(2, .pointer (some ⟨b2, 0, none⟩)), (4, .pointer (some ⟨b12, 0, none⟩)), (5, .int .u8 t88), (8, .pointer (some ⟨b99, 0, none⟩))]) := by
    intro t123 t124 t125 A121 c122 w127 h h126
    rw [hJ129] at h
    clear hJ129
    dsimp only at h
    refine RegI.p 5 [(0, .pointer (some ⟨b12, 0, none⟩)), (3, .int .u8 t124), (4, .bool t125)] ?_
    refine RegI.d ?_
    refine RunsI.g 1 [.c 5, .c 6] ?_
    refine RunsI.r ?_
    refine RegI.p 3 [(0, .pointer (some ⟨b12, 0, none⟩)), (3, .int .u8 t124), (4, .bool t125), (13, .pointer (some ⟨b12, 0, none⟩)), (15, .pointer (some ⟨b12, 1, none⟩))] ?_
    refine RegI.o (OpE.loadBox 16 0 3 b12 1 (.int .i64 t94) h126 (by kernel_rfl) (by kernel_rfl) rfl (by kernel_rfl) ?_)
    refine RegI.p 3 [(0, .pointer (some ⟨b12, 0, none⟩)), (3, .int .u8 t124), (4, .bool t125), (17, .int .i64 (IntKind.wrap .i64 (t94 + 1))), (19, .pointer (some ⟨b12, 1, none⟩))] ?_
    refine RegI.o (OpE.storeBox 0 3 b12 1 (.int .i64 (IntKind.wrap .i64 (t94 + 1))) [.func (.func 169) #[] #[.pointer (some ⟨b7, 0, none⟩)], .int .i64 (IntKind.wrap .i64 (t94 + 1)), .bool t95] h126 (by kernel_rfl) (by kernel_rfl) rfl (by kernel_rfl) (by kernel_rfl) (by kernel_rfl) ?_)
    intro w131 h132 hk133
    refine RegI.d ?_
    refine RunsI.g 1 [.c 7, .c 8] ?_
    refine RunsI.r ?_
    refine RegI.p 4 [(3, .int .u8 t124), (4, .bool t125), (20, .pointer (some ⟨b12, 0, none⟩)), (23, .pointer (some ⟨b12, 2, none⟩))] ?_
    refine RegI.o (OpE.loadBox 24 0 4 b12 2 (.bool t95) h132 (by kernel_rfl) (by kernel_rfl) rfl (by kernel_rfl) ?_)
    refine RegI.p 1 [(3, .int .u8 t124), (4, .bool t125), (20, .pointer (some ⟨b12, 0, none⟩)), (25, .bool t95)] ?_
    rcases of_cond h with ⟨hc134, h⟩ | ⟨hc134, h⟩
    ·skip
     refine RegI.f 25 true hc134 ?_
     refine RegI.p 4 [(3, .int .u8 t124), (27, .bool t125), (29, .pointer (some ⟨b12, 2, none⟩))] ?_
     refine RegI.o (OpE.storeBox 0 4 b12 2 (.bool t125) [.func (.func 169) #[] #[.pointer (some ⟨b7, 0, none⟩)], .int .i64 (IntKind.wrap .i64 (t94 + 1)), .bool t125] h132 (by kernel_rfl) (by kernel_rfl) rfl (by kernel_rfl) (by kernel_rfl) (by kernel_rfl) ?_)
     intro w135 h136 hk137
     refine RegI.d ?_
     refine RunsI.g 1 [.c 9, .c 10] ?_
     refine RunsI.r ?_
     refine RegI.p 2 [(2, .int .u8 t124)] ?_
     refine RegI.d ?_
     refine RunsI.t (.int .u8 t124) ?_
     refine cont_mk ?_
     refine RegI.l [2, 4, 5, 8, 26] [(2, .pointer (some ⟨b2, 0, none⟩)), (4, .pointer (some ⟨b12, 0, none⟩)), (5, .int .u8 t88), (8, .pointer (some ⟨b99, 0, none⟩)), (26, .int .u8 t124)] ?_
     exact hj150 t123 t125 t124 A121 c122 w135 h (h136.pick [3, 0, 1, 2, 4] (by decide))
    ·skip
     refine RegI.f 25 false hc134 ?_
     refine RegI.p 4 [(3, .int .u8 t124), (27, .bool false), (29, .pointer (some ⟨b12, 2, none⟩))] ?_
     refine RegI.o (OpE.storeBox 0 4 b12 2 (.bool false) [.func (.func 169) #[] #[.pointer (some ⟨b7, 0, none⟩)], .int .i64 (IntKind.wrap .i64 (t94 + 1)), .bool false] h132 (by kernel_rfl) (by kernel_rfl) rfl (by kernel_rfl) (by kernel_rfl) (by kernel_rfl) ?_)
     intro w138 h139 hk140
     refine RegI.d ?_
     refine RunsI.g 1 [.c 9, .c 10] ?_
     refine RunsI.r ?_
     refine RegI.p 2 [(2, .int .u8 t124)] ?_
     refine RegI.d ?_
     refine RunsI.t (.int .u8 t124) ?_
     refine cont_mk ?_
     refine RegI.l [2, 4, 5, 8, 26] [(2, .pointer (some ⟨b2, 0, none⟩)), (4, .pointer (some ⟨b12, 0, none⟩)), (5, .int .u8 t88), (8, .pointer (some ⟨b99, 0, none⟩)), (26, .int .u8 t124)] ?_
     exact hj150 t123 false t124 A121 c122 w138 h (h139.pick [3, 0, 1, 2, 4] (by decide))
   clear hJ129
   refine RunsI.g 1 [.c 1, .c 2] ?_
   refine RunsI.r ?_
   refine RegI.p 2 [(0, .pointer (some ⟨b7, 0, none⟩))] ?_
   refine RegI.d ?_
   refine RunsI.g 2 [.c 4, .c 5, .c 10] ?_
   refine RunsI.r ?_
   refine RegI.o (OpE.loadBox 4 2 23 b7 0 (.slice A91 t93.length c92) h104 (by kernel_rfl) (by kernel_rfl) rfl (by kernel_rfl) ?_)
   refine RegI.p 2 [(0, .pointer (some ⟨b7, 0, none⟩)), (6, .bool ((t93.length : Int) == 0))] ?_
   refine RegI.d ?_
   rcases of_cond h with ⟨hc107, h⟩ | ⟨hc107, h⟩
   ·skip
    refine RunsI.f 6 true hc107 ?_
    refine RunsI.b true 6 ?_
    refine RunsI.g 1 [.c 7, .c 8, .c 10] ?_
    refine RunsI.r ?_
    refine RegI.p 2 [(1, .int .u8 0), (2, .bool false)] ?_
    refine RegI.d ?_
    refine RunsI.t (.tuple #[.int .u8 0, .bool false]) ?_
    refine cont_mk ?_
    refine RegI.l [0, 10] [(0, .pointer (some ⟨b12, 0, none⟩)), (10, .tuple #[.int .u8 0, .bool false])] ?_
    exact hj130 t93 0 false A91 c92 w103 h (h104.pick [1, 2, 3, 0, 4] (by decide))
   ·skip
    refine RunsI.f 6 false hc107 ?_
    refine RunsI.b false 9 ?_
    refine RunsI.g 1 [.c 10] ?_
    refine RunsI.g 1 [.c 11, .c 12] ?_
    refine RunsI.r ?_
    refine RegI.o (OpE.loadBox 7 2 23 b7 0 (.slice A91 t93.length c92) h104 (by kernel_rfl) (by kernel_rfl) rfl (by kernel_rfl) ?_)
    obtain ⟨hc108, h⟩ := of_cond0 h
    refine RegI.o (OpE.idxSl 8 3 23 0 h104 (by kernel_rfl) rfl (by kernel_rfl) (by kernel_rfl) hc108 ?_)
    intro b109 o110 cs111 hk112 h113
    obtain rfl := hk112
    refine RegI.o (OpE.loadCel 9 5 5 b109 o110 0 (.int .u8 (rdD t93 0)) h113 (by kernel_rfl) (by kernel_rfl) rfl (by kernel_rfl) ?_)
    refine RegI.p 1 [(0, .pointer (some ⟨b7, 0, none⟩)), (3, .int .u8 (rdD t93 0))] ?_
    refine RegI.d ?_
    refine RunsI.g 1 [.c 13, .c 14] ?_
    refine RunsI.r ?_
    refine RegI.o (OpE.loadBox 10 2 23 b7 0 (.slice A91 t93.length c92) h113 (by kernel_rfl) (by kernel_rfl) rfl (by kernel_rfl) ?_)
    obtain ⟨hc114, h⟩ := of_cond0 h
    refine RegI.o (OpE.cutSl 11 3 23 (some 1) none h113 (by kernel_rfl) rfl (by kernel_rfl) (by kernel_rfl) hc114 ?_)
    intro A115 c116 h117
    refine RegI.o (OpE.storeBox 2 23 b7 0 (.slice A115 ((cutL t93 1 (t93.length : Int)).length) c116) [.slice A115 ((cutL t93 1 (t93.length : Int)).length) c116] h117 (by kernel_rfl) (by kernel_rfl) rfl (by kernel_rfl) (by kernel_rfl) (by kernel_rfl) ?_)
    intro w118 h119 hk120
    refine RegI.d ?_
    refine RunsI.g 1 [.c 15, .c 16] ?_
    refine RunsI.r ?_
    refine RegI.p 3 [(1, .int .u8 (rdD t93 0)), (2, .bool true)] ?_
    refine RegI.d ?_
    refine RunsI.t (.tuple #[.int .u8 (rdD t93 0), .bool true]) ?_
    refine cont_mk ?_
    refine RegI.l [0, 10] [(0, .pointer (some ⟨b12, 0, none⟩)), (10, .tuple #[.int .u8 (rdD t93 0), .bool true])] ?_
    exact hj130 (cutL t93 1 (t93.length : Int)) (rdD t93 0) true A115 c116 w118 h (h119.pick [1, 2, 6, 0, 4] (by decide))
  ·skip
   refine RunsI.f 22 false hc106 ?_
   refine RunsI.b false 20 ?_
   refine RunsI.g 1 [.c 21, .c 22, .blk 0, .c 43] ?_
   refine RunsI.r ?_
   refine RegI.p 3 [(2, .pointer (some ⟨b2, 0, none⟩)), (4, .pointer (some ⟨b12, 0, none⟩)), (5, .int .u8 t88), (6, .int .u8 t89), (8, .pointer (some ⟨b99, 0, none⟩)), (38, .bool (t89 == 203))] ?_
   obtain ⟨j165, hJ166, h⟩ := of_let h
   have hj167 : ∀ (t162 : Bool) (w164 : World), j165 t162 = some r → Holds M0 w0 w164 [box b2 51 [.int .i64 0, .int .u8 0, .int .u8 0, .int .u16 0, .int .i64 0, .int .i64 0], box b12 170 [.func (.func 169) #[] #[.pointer (some ⟨b7, 0, none⟩)], .int .i64 t94, .bool t95], box b7 23 [.slice A91 t93.length c92], sl (Rp.int .u8) (.slice A91 t93.length c92) t93, box b99 51 [.int .i64 0, .int .u8 t89, .int .u8 0, .int .u16 0, .int .i64 0, .int .i64 t90]] → RegI F133 21 [.c 22, .blk 0, .c 43] 7 [(2, .pointer (some ⟨b2, 0, none⟩)), (4, .pointer (some ⟨b12, 0, none⟩)), (5, .int .u8 t88), (6, .int .u8 t89), (8, .pointer (some ⟨b99, 0, none⟩)), (35, .bool t162)] w164 (decode_Next_133.post M0 w0 r) := by
    intro t162 w164 h h163
    rw [hJ166] at h
    clear hJ166
    dsimp only at h
    refine RegI.d ?_
    rcases of_cond h with ⟨hc168, h⟩ | ⟨hc168, h⟩
    ·skip
     refine RunsI.f 35 true hc168 ?_
     refine RunsI.b true 23 ?_
     refine RunsI.g 1 [.c 24, .c 25, .blk 0, .c 43] ?_
     refine RunsI.r ?_
     refine RegI.p 1 [(2, .pointer (some ⟨b2, 0, none⟩)), (4, .pointer (some ⟨b12, 0, none⟩)), (5, .int .u8 t88), (8, .pointer (some ⟨b99, 0, none⟩)), (42, .pointer (some ⟨b99, 0, none⟩))] ?_
     refine RegI.o (OpE.storeBox 4 3 b99 0 (.int .i64 5) [.int .i64 5, .int .u8 t89, .int .u8 0, .int .u16 0, .int .i64 0, .int .i64 t90] h163 (by kernel_rfl) (by kernel_rfl) rfl (by kernel_rfl) (by kernel_rfl) (by kernel_rfl) ?_)
     intro w169 h170 hk171
     refine RegI.d ?_
     refine RunsI.g 1 [.c 26, .c 27, .blk 0, .c 43] ?_
     refine RunsI.r ?_
     refine RegI.p 1 [(2, .pointer (some ⟨b2, 0, none⟩)), (4, .pointer (some ⟨b12, 0, none⟩)), (5, .int .u8 t88), (8, .pointer (some ⟨b99, 0, none⟩)), (43, .pointer (some ⟨b12, 0, none⟩))] ?_
     refine RegI.enter 44 [2, 4, 5, 8] [(2, .pointer (some ⟨b2, 0, none⟩)), (4, .pointer (some ⟨b12, 0, none⟩)), (5, .int .u8 t88), (8, .pointer (some ⟨b99, 0, none⟩))] (by kernel_rfl) (by kernel_rfl) (by kernel_rfl) (by kernel_rfl) F150 150 rfl [.pointer (some ⟨b12, 0, none⟩)] (by kernel_rfl) (by kernel_rfl) ?_
     obtain ⟨j213, hJ214, h⟩ := of_let h
     have hj215 : ∀ (t208 : List Int) (t209 : Bool) (t210 : Int) (A206 : Option Addr) (c207 : Nat) (w212 : World), j213 (t208, t209, t210) = some r → Holds M0 w0 w212 [box b2 51 [.int .i64 0, .int .u8 0, .int .u8 0, .int .u16 0, .int .i64 0, .int .i64 0], box b12 170 [.func (.func 169) #[] #[.pointer (some ⟨b7, 0, none⟩)], .int .i64 (IntKind.wrap .i64 (t94 + 1)), .bool t209], box b7 23 [.slice A206 t208.length c207], sl (Rp.int .u8) (.slice A206 t208.length c207) t208, box b99 51 [.int .i64 5, .int .u8 t89, .int .u8 0, .int .u16 0, .int .i64 0, .int .i64 t90]] → RegI F133 26 [.c 27, .blk 0, .c 43] 2 [(2, .pointer (some ⟨b2, 0, none⟩)), (4, .pointer (some ⟨b12, 0, none⟩)), (5, .int .u8 t88), (8, .pointer (some ⟨b99, 0, none⟩)), (44, .int .u8 t210)] w212 (decode_Next_133.post M0 w0 r) := by
      intro t208 t209 t210 A206 c207 w212 h h211
      rw [hJ214] at h
      clear hJ214
      dsimp only at h
      refine RegI.p 1 [(2, .pointer (some ⟨b2, 0, none⟩)), (4, .pointer (some ⟨b12, 0, none⟩)), (5, .int .u8 t88), (8, .pointer (some ⟨b99, 0, none⟩)), (44, .int .u8 t210), (45, .pointer (some ⟨b99, 2, none⟩))] ?_
      refine RegI.o (OpE.storeBox 4 5 b99 2 (.int .u8 t210) [.int .i64 5, .int .u8 t89, .int .u8 t210, .int .u16 0, .int .i64 0, .int .i64 t90] h211 (by kernel_rfl) (by kernel_rfl) rfl (by kernel_rfl) (by kernel_rfl) (by kernel_rfl) ?_)
      intro w216 h217 hk218
      refine RegI.d ?_
      refine RunsI.r ?_
      refine RegI.p 1 [(2, .pointer (some ⟨b2, 0, none⟩)), (4, .pointer (some ⟨b12, 0, none⟩)), (5, .int .u8 t88), (8, .pointer (some ⟨b99, 0, none⟩)), (46, .pointer (some ⟨b12, 0, none⟩))] ?_
      refine RegI.enter 47 [2, 4, 5, 8] [(2, .pointer (some ⟨b2, 0, none⟩)), (4, .pointer (some ⟨b12, 0, none⟩)), (5, .int .u8 t88), (8, .pointer (some ⟨b99, 0, none⟩))] (by kernel_rfl) (by kernel_rfl) (by kernel_rfl) (by kernel_rfl) F150 150 rfl [.pointer (some ⟨b12, 0, none⟩)] (by kernel_rfl) (by kernel_rfl) ?_
      obtain ⟨j260, hJ261, h⟩ := of_let h
      have hj262 : ∀ (t255 : List Int) (t256 : Bool) (t257 : Int) (A253 : Option Addr) (c254 : Nat) (w259 : World), j260 (t255, t256, t257) = some r → Holds M0 w0 w259 [box b2 51 [.int .i64 0, .int .u8 0, .int .u8 0, .int .u16 0, .int .i64 0, .int .i64 0], box b12 170 [.func (.func 169) #[] #[.pointer (some ⟨b7, 0, none⟩)], .int .i64 (IntKind.wrap .i64 ((IntKind.wrap .i64 (t94 + 1)) + 1)), .bool t256], box b7 23 [.slice A253 t255.length c254], sl (Rp.int .u8) (.slice A253 t255.length c254) t255, box b99 51 [.int .i64 5, .int .u8 t89, .int .u8 t210, .int .u16 0, .int .i64 0, .int .i64 t90]] → RegI F133 27 [.blk 0, .c 43] 2 [(2, .pointer (some ⟨b2, 0, none⟩)), (4, .pointer (some ⟨b12, 0, none⟩)), (5, .int .u8 t88), (8, .pointer (some ⟨b99, 0, none⟩)), (47, .int .u8 t257)] w259 (decode_Next_133.post M0 w0 r) := by
       intro t255 t256 t257 A253 c254 w259 h h258
       rw [hJ261] at h
       clear hJ261
       dsimp only at h
       refine RegI.p 1 [(2, .pointer (some ⟨b2, 0, none⟩)), (4, .pointer (some ⟨b12, 0, none⟩)), (5, .int .u8 t88), (8, .pointer (some ⟨b99, 0, none⟩)), (47, .int .u8 t257), (48, .pointer (some ⟨b99, 1, none⟩))] ?_
       refine RegI.o (OpE.storeBox 4 5 b99 1 (.int .u8 t257) [.int .i64 5, .int .u8 t257, .int .u8 t210, .int .u16 0, .int .i64 0, .int .i64 t90] h258 (by kernel_rfl) (by kernel_rfl) rfl (by kernel_rfl) (by kernel_rfl) (by kernel_rfl) ?_)
       intro w263 h264 hk265
       refine RegI.d ?_
       refine RunsI.l [2, 4, 5, 8] [(2, .pointer (some ⟨b2, 0, none⟩)), (4, .pointer (some ⟨b12, 0, none⟩)), (5, .int .u8 t88), (8, .pointer (some ⟨b99, 0, none⟩))] ?_
       exact hj387 t255 (IntKind.wrap .i64 ((IntKind.wrap .i64 (t94 + 1)) + 1)) t256 5 t257 t210 t90 A253 c254 w263 h (h264.pick [0, 1, 2, 3, 4] (by decide))
      clear hJ261
      refine RunsI.g 1 [.c 1, .c 2] ?_
      refine RunsI.r ?_
      refine RegI.p 1 [(0, .pointer (some ⟨b12, 0, none⟩))] ?_
      refine RegI.d ?_
      refine RunsI.g 1 [.c 3, .c 4] ?_
      refine RunsI.r ?_
      refine RegI.p 3 [(0, .pointer (some ⟨b12, 0, none⟩)), (8, .pointer (some ⟨b12, 0, none⟩))] ?_
      refine RegI.o (OpE.loadBox 9 1 167 b12 0 (.func (.func 169) #[] #[.pointer (some ⟨b7, 0, none⟩)]) h217 (by kernel_rfl) (by kernel_rfl) rfl (by kernel_rfl) ?_)
      refine RegI.enter 10 [0] [(0, .pointer (some ⟨b12, 0, none⟩))] (by kernel_rfl) (by kernel_rfl) (by kernel_rfl) (by kernel_rfl) F169 169 rfl [.pointer (some ⟨b7, 0, none⟩)] (by kernel_rfl) (by kernel_rfl) ?_
      obtain ⟨j240, hJ241, h⟩ := of_let h
      have hj242 : ∀ (t235 : List Int) (t236 : Int) (t237 : Bool) (A233 : Option Addr) (c234 : Nat) (w239 : World), j240 (t235, t236, t237) = some r → Holds M0 w0 w239 [box b12 170 [.func (.func 169) #[] #[.pointer (some ⟨b7, 0, none⟩)], .int .i64 (IntKind.wrap .i64 (t94 + 1)), .bool t209], box b7 23 [.slice A233 t235.length c234], sl (Rp.int .u8) (.slice A233 t235.length c234) t235, box b2 51 [.int .i64 0, .int .u8 0, .int .u8 0, .int .u16 0, .int .i64 0, .int .i64 0], box b99 51 [.int .i64 5, .int .u8 t89, .int .u8 t210, .int .u16 0, .int .i64 0, .int .i64 t90]] → RegI F150 3 [.c 4] 5 [(0, .pointer (some ⟨b12, 0, none⟩)), (10, .tuple #[.int .u8 t236, .bool t237])] w239 (cont (fun e' w' => RegI F133 27 [.blk 0, .c 43] 2 e' w' (decode_Next_133.post M0 w0 r)) 47 [(2, .pointer (some ⟨b2, 0, none⟩)), (4, .pointer (some ⟨b12, 0, none⟩)), (5, .int .u8 t88), (8, .pointer (some ⟨b99, 0, none⟩))]) := by
       intro t235 t236 t237 A233 c234 w239 h h238
       rw [hJ241] at h
       clear hJ241
       dsimp only at h
       refine RegI.p 5 [(0, .pointer (some ⟨b12, 0, none⟩)), (3, .int .u8 t236), (4, .bool t237)] ?_
       refine RegI.d ?_
       refine RunsI.g 1 [.c 5, .c 6] ?_
       refine RunsI.r ?_
       refine RegI.p 3 [(0, .pointer (some ⟨b12, 0, none⟩)), (3, .int .u8 t236), (4, .bool t237), (13, .pointer (some ⟨b12, 0, none⟩)), (15, .pointer (some ⟨b12, 1, none⟩))] ?_
       refine RegI.o (OpE.loadBox 16 0 3 b12 1 (.int .i64 (IntKind.wrap .i64 (t94 + 1))) h238 (by kernel_rfl) (by kernel_rfl) rfl (by kernel_rfl) ?_)
       refine RegI.p 3 [(0, .pointer (some ⟨b12, 0, none⟩)), (3, .int .u8 t236), (4, .bool t237), (17, .int .i64 (IntKind.wrap .i64 ((IntKind.wrap .i64 (t94 + 1)) + 1))), (19, .pointer (some ⟨b12, 1, none⟩))] ?_
       refine RegI.o (OpE.storeBox 0 3 b12 1 (.int .i64 (IntKind.wrap .i64 ((IntKind.wrap .i64 (t94 + 1)) + 1))) [.func (.func 169) #[] #[.pointer (some ⟨b7, 0, none⟩)], .int .i64 (IntKind.wrap .i64 ((IntKind.wrap .i64 (t94 + 1)) + 1)), .bool t209] h238 (by kernel_rfl) (by kernel_rfl) rfl (by kernel_rfl) (by kernel_rfl) (by kernel_rfl) ?_)
       intro w243 h244 hk245
       refine RegI.d ?_
       refine RunsI.g 1 [.c 7, .c 8] ?_
       refine RunsI.r ?_
       refine RegI.p 4 [(3, .int .u8 t236), (4, .bool t237), (20, .pointer (some ⟨b12, 0, none⟩)), (23, .pointer (some ⟨b12, 2, none⟩))] ?_
       refine RegI.o (OpE.loadBox 24 0 4 b12 2 (.bool t209) h244 (by kernel_rfl) (by kernel_rfl) rfl (by kernel_rfl) ?_)
       refine RegI.p 1 [(3, .int .u8 t236), (4, .bool t237), (20, .pointer (some ⟨b12, 0, none⟩)), (25, .bool t209)] ?_
       rcases of_cond h with ⟨hc246, h⟩ | ⟨hc246, h⟩
       ·skip
        refine RegI.f 25 true hc246 ?_
        refine RegI.p 4 [(3, .int .u8 t236), (27, .bool t237), (29, .pointer (some ⟨b12, 2, none⟩))] ?_
        refine RegI.o (OpE.storeBox 0 4 b12 2 (.bool t237) [.func (.func 169) #[] #[.pointer (some ⟨b7, 0, none⟩)], .int .i64 (IntKind.wrap .i64 ((IntKind.wrap .i64 (t94 + 1)) + 1)), .bool t237] h244 (by kernel_rfl) (by kernel_rfl) rfl (by kernel_rfl) (by kernel_rfl) (by kernel_rfl) ?_)
        intro w247 h248 hk249
        refine RegI.d ?_
        refine RunsI.g 1 [.c 9, .c 10] ?_
        refine RunsI.r ?_
        refine RegI.p 2 [(2, .int .u8 t236)] ?_
        refine RegI.d ?_
        refine RunsI.t (.int .u8 t236) ?_
        refine cont_mk ?_
        refine RegI.l [2, 4, 5, 8, 47] [(2, .pointer (some ⟨b2, 0, none⟩)), (4, .pointer (some ⟨b12, 0, none⟩)), (5, .int .u8 t88), (8, .pointer (some ⟨b99, 0, none⟩)), (47, .int .u8 t236)] ?_
        exact hj262 t235 t237 t236 A233 c234 w247 h (h248.pick [3, 0, 1, 2, 4] (by decide))
       ·skip
        refine RegI.f 25 false hc246 ?_
        refine RegI.p 4 [(3, .int .u8 t236), (27, .bool false), (29, .pointer (some ⟨b12, 2, none⟩))] ?_
        refine RegI.o (OpE.storeBox 0 4 b12 2 (.bool false) [.func (.func 169) #[] #[.pointer (some ⟨b7, 0, none⟩)], .int .i64 (IntKind.wrap .i64 ((IntKind.wrap .i64 (t94 + 1)) + 1)), .bool false] h244 (by kernel_rfl) (by kernel_rfl) rfl (by kernel_rfl) (by kernel_rfl) (by kernel_rfl) ?_)
        intro w250 h251 hk252
        refine RegI.d ?_
        refine RunsI.g 1 [.c 9, .c 10] ?_
        refine RunsI.r ?_
        refine RegI.p 2 [(2, .int .u8 t236)] ?_
        refine RegI.d ?_
        refine RunsI.t (.int .u8 t236) ?_
        refine cont_mk ?_
        refine RegI.l [2, 4, 5, 8, 47] [(2, .pointer (some ⟨b2, 0, none⟩)), (4, .pointer (some ⟨b12, 0, none⟩)), (5, .int .u8 t88), (8, .pointer (some ⟨b99, 0, none⟩)), (47, .int .u8 t236)] ?_
        exact hj262 t235 false t236 A233 c234 w250 h (h251.pick [3, 0, 1, 2, 4] (by decide))
      clear hJ241
      refine RunsI.g 1 [.c 1, .c 2] ?_
      refine RunsI.r ?_
      refine RegI.p 2 [(0, .pointer (some ⟨b7, 0, none⟩))] ?_
      refine RegI.d ?_
      refine RunsI.g 2 [.c 4, .c 5, .c 10] ?_
      refine RunsI.r ?_
      refine RegI.o (OpE.loadBox 4 2 23 b7 0 (.slice A206 t208.length c207) h217 (by kernel_rfl) (by kernel_rfl) rfl (by kernel_rfl) ?_)
      refine RegI.p 2 [(0, .pointer (some ⟨b7, 0, none⟩)), (6, .bool ((t208.length : Int) == 0))] ?_
      refine RegI.d ?_
      rcases of_cond h with ⟨hc219, h⟩ | ⟨hc219, h⟩
      ·skip
       refine RunsI.f 6 true hc219 ?_
       refine RunsI.b true 6 ?_
       refine RunsI.g 1 [.c 7, .c 8, .c 10] ?_
       refine RunsI.r ?_
       refine RegI.p 2 [(1, .int .u8 0), (2, .bool false)] ?_
       refine RegI.d ?_
       refine RunsI.t (.tuple #[.int .u8 0, .bool false]) ?_
       refine cont_mk ?_
       refine RegI.l [0, 10] [(0, .pointer (some ⟨b12, 0, none⟩)), (10, .tuple #[.int .u8 0, .bool false])] ?_
       exact hj242 t208 0 false A206 c207 w216 h (h217.pick [1, 2, 3, 0, 4] (by decide))
      ·skip
       refine RunsI.f 6 false hc219 ?_
       refine RunsI.b false 9 ?_
       refine RunsI.g 1 [.c 10] ?_
       refine RunsI.g 1 [.c 11, .c 12] ?_
       refine RunsI.r ?_
       refine RegI.o (OpE.loadBox 7 2 23 b7 0 (.slice A206 t208.length c207) h217 (by kernel_rfl) (by kernel_rfl) rfl (by kernel_rfl) ?_)
       obtain ⟨hc220, h⟩ := of_cond0 h
       refine RegI.o (OpE.idxSl 8 3 23 0 h217 (by kernel_rfl) rfl (by kernel_rfl) (by kernel_rfl) hc220 ?_)
       intro b221 o222 cs223 hk224 h225
       obtain rfl := hk224
       refine RegI.o (OpE.loadCel 9 5 5 b221 o222 0 (.int .u8 (rdD t208 0)) h225 (by kernel_rfl) (by kernel_rfl) rfl (by kernel_rfl) ?_)
       refine RegI.p 1 [(0, .pointer (some ⟨b7, 0, none⟩)), (3, .int .u8 (rdD t208 0))] ?_
       refine RegI.d ?_
       refine RunsI.g 1 [.c 13, .c 14] ?_
       refine RunsI.r ?_
       refine RegI.o (OpE.loadBox 10 2 23 b7 0 (.slice A206 t208.length c207) h225 (by kernel_rfl) (by kernel_rfl) rfl (by kernel_rfl) ?_)
       obtain ⟨hc226, h⟩ := of_cond0 h
       refine RegI.o (OpE.cutSl 11 3 23 (some 1) none h225 (by kernel_rfl) rfl (by kernel_rfl) (by kernel_rfl) hc226 ?_)
       intro A227 c228 h229
       refine RegI.o (OpE.storeBox 2 23 b7 0 (.slice A227 ((cutL t208 1 (t208.length : Int)).length) c228) [.slice A227 ((cutL t208 1 (t208.length : Int)).length) c228] h229 (by kernel_rfl) (by kernel_rfl) rfl (by kernel_rfl) (by kernel_rfl) (by kernel_rfl) ?_)
       intro w230 h231 hk232
       refine RegI.d ?_
       refine RunsI.g 1 [.c 15, .c 16] ?_
       refine RunsI.r ?_
       refine RegI.p 3 [(1, .int .u8 (rdD t208 0)), (2, .bool true)] ?_
       refine RegI.d ?_
       refine RunsI.t (.tuple #[.int .u8 (rdD t208 0), .bool true]) ?_
       refine cont_mk ?_
       refine RegI.l [0, 10] [(0, .pointer (some ⟨b12, 0, none⟩)), (10, .tuple #[.int .u8 (rdD t208 0), .bool true])] ?_
       exact hj242 (cutL t208 1 (t208.length : Int)) (rdD t208 0) true A227 c228 w230 h (h231.pick [1, 2, 6, 0, 4] (by decide))
     clear hJ214
     refine RunsI.g 1 [.c 1, .c 2] ?_
     refine RunsI.r ?_
     refine RegI.p 1 [(0, .pointer (some ⟨b12, 0, none⟩))] ?_
     refine RegI.d ?_
     refine RunsI.g 1 [.c 3, .c 4] ?_
     refine RunsI.r ?_
     refine RegI.p 3 [(0, .pointer (some ⟨b12, 0, none⟩)), (8, .pointer (some ⟨b12, 0, none⟩))] ?_
     refine RegI.o (OpE.loadBox 9 1 167 b12 0 (.func (.func 169) #[] #[.pointer (some ⟨b7, 0, none⟩)]) h170 (by kernel_rfl) (by kernel_rfl) rfl (by kernel_rfl) ?_)
     refine RegI.enter 10 [0] [(0, .pointer (some ⟨b12, 0, none⟩))] (by kernel_rfl) (by kernel_rfl) (by kernel_rfl) (by kernel_rfl) F169 169 rfl [.pointer (some ⟨b7, 0, none⟩)] (by kernel_rfl) (by kernel_rfl) ?_
     obtain ⟨j193, hJ194, h⟩ := of_let h
     have hj195 : ∀ (t188 : List Int) (t189 : Int) (t190 : Bool) (A186 : Option Addr) (c187 : Nat) (w192 : World), j193 (t188, t189, t190) = some r → Holds M0 w0 w192 [box b12 170 [.func (.func 169) #[] #[.pointer (some ⟨b7, 0, none⟩)], .int .i64 t94, .bool t95], box b7 23 [.slice A186 t188.length c187], sl (Rp.int .u8) (.slice A186 t188.length c187) t188, box b2 51 [.int .i64 0, .int .u8 0, .int .u8 0, .int .u16 0, .int .i64 0, .int .i64 0], box b99 51 [.int .i64 5, .int .u8 t89, .int .u8 0, .int .u16 0, .int .i64 0, .int .i64 t90]] → RegI F150 3 [.c 4] 5 [(0, .pointer (some ⟨b12, 0, none⟩)), (10, .tuple #[.int .u8 t189, .bool t190])] w192 (cont (fun e' w' => RegI F133 26 [.c 27, .blk 0, .c 43] 2 e' w' (decode_Next_133.post M0 w0 r)) 44 [(2, .pointer (some ⟨b2, 0, none⟩)), (4, .pointer (some ⟨b12, 0, none⟩)), (5, .int .u8 t88), (8, .pointer (some ⟨b99, 0, none⟩))]) := by
      intro t188 t189 t190 A186 c187 w192 h h191
      rw [hJ194] at h
      clear hJ194
      dsimp only at h
      refine RegI.p 5 [(0, .pointer (some ⟨b12, 0, none⟩)), (3, .int .u8 t189), (4, .bool t190)] ?_
      refine RegI.d ?_
      refine RunsI.g 1 [.c 5, .c 6] ?_
      refine RunsI.r ?_
      refine RegI.p 3 [(0, .pointer (some ⟨b12, 0, none⟩)), (3, .int .u8 t189), (4, .bool t190), (13, .pointer (some ⟨b12, 0, none⟩)), (15, .pointer (some ⟨b12, 1, none⟩))] ?_
      refine RegI.o (OpE.loadBox 16 0 3 b12 1 (.int .i64 t94) h191 (by kernel_rfl) (by kernel_rfl) rfl (by kernel_rfl) ?_)
      refine RegI.p 3 [(0, .pointer (some ⟨b12, 0, none⟩)), (3, .int .u8 t189), (4, .bool t190), (17, .int .i64 (IntKind.wrap .i64 (t94 + 1))), (19, .pointer (some ⟨b12, 1, none⟩))] ?_
      refine RegI.o (OpE.storeBox 0 3 b12 1 (.int .i64 (IntKind.wrap .i64 (t94 + 1))) [.func (.func 169) #[] #[.pointer (some ⟨b7, 0, none⟩)], .int .i64 (IntKind.wrap .i64 (t94 + 1)), .bool t95] h191 (by kernel_rfl) (by kernel_rfl) rfl (by kernel_rfl) (by kernel_rfl) (by kernel_rfl) ?_)
      intro w196 h197 hk198
      refine RegI.d ?_
      refine RunsI.g 1 [.c 7, .c 8] ?_
      refine RunsI.r ?_
      refine RegI.p 4 [(3, .int .u8 t189), (4, .bool t190), (20, .pointer (some ⟨b12, 0, none⟩)), (23, .pointer (some ⟨b12, 2, none⟩))] ?_
      refine RegI.o (OpE.loadBox 24 0 4 b12 2 (.bool t95) h197 (by kernel_rfl) (by kernel_rfl) rfl (by kernel_rfl) ?_)
      refine RegI.p 1 [(3, .int .u8 t189), (4, .bool t190), (20, .pointer (some ⟨b12, 0, none⟩)), (25, .bool t95)] ?_
      rcases of_cond h with ⟨hc199, h⟩ | ⟨hc199, h⟩
      ·skip
       refine RegI.f 25 true hc199 ?_
       refine RegI.p 4 [(3, .int .u8 t189), (27, .bool t190), (29, .pointer (some ⟨b12, 2, none⟩))] ?_
       refine RegI.o (OpE.storeBox 0 4 b12 2 (.bool t190) [.func (.func 169) #[] #[.pointer (some ⟨b7, 0, none⟩)], .int .i64 (IntKind.wrap .i64 (t94 + 1)), .bool t190] h197 (by kernel_rfl) (by kernel_rfl) rfl (by kernel_rfl) (by kernel_rfl) (by kernel_rfl) ?_)
       intro w200 h201 hk202
       refine RegI.d ?_
       refine RunsI.g 1 [.c 9, .c 10] ?_
       refine RunsI.r ?_
       refine RegI.p 2 [(2, .int .u8 t189)] ?_
       refine RegI.d ?_
       refine RunsI.t (.int .u8 t189) ?_
       refine cont_mk ?_
       refine RegI.l [2, 4, 5, 8, 44] [(2, .pointer (some ⟨b2, 0, none⟩)), (4, .pointer (some ⟨b12, 0, none⟩)), (5, .int .u8 t88), (8, .pointer (some ⟨b99, 0, none⟩)), (44, .int .u8 t189)] ?_
       exact hj215 t188 t190 t189 A186 c187 w200 h (h201.pick [3, 0, 1, 2, 4] (by decide))
      ·skip
       refine RegI.f 25 false hc199 ?_
       refine RegI.p 4 [(3, .int .u8 t189), (27, .bool false), (29, .pointer (some ⟨b12, 2, none⟩))] ?_
       refine RegI.o (OpE.storeBox 0 4 b12 2 (.bool false) [.func (.func 169) #[] #[.pointer (some ⟨b7, 0, none⟩)], .int .i64 (IntKind.wrap .i64 (t94 + 1)), .bool false] h197 (by kernel_rfl) (by kernel_rfl) rfl (by kernel_rfl) (by kernel_rfl) (by kernel_rfl) ?_)
       intro w203 h204 hk205
       refine RegI.d ?_
       refine RunsI.g 1 [.c 9, .c 10] ?_
       refine RunsI.r ?_
       refine RegI.p 2 [(2, .int .u8 t189)] ?_
       refine RegI.d ?_
       refine RunsI.t (.int .u8 t189) ?_
       refine cont_mk ?_
       refine RegI.l [2, 4, 5, 8, 44] [(2, .pointer (some ⟨b2, 0, none⟩)), (4, .pointer (some ⟨b12, 0, none⟩)), (5, .int .u8 t88), (8, .pointer (some ⟨b99, 0, none⟩)), (44, .int .u8 t189)] ?_
       exact hj215 t188 false t189 A186 c187 w203 h (h204.pick [3, 0, 1, 2, 4] (by decide))
     clear hJ194
     refine RunsI.g 1 [.c 1, .c 2] ?_
     refine RunsI.r ?_
     refine RegI.p 2 [(0, .pointer (some ⟨b7, 0, none⟩))] ?_
     refine RegI.d ?_
     refine RunsI.g 2 [.c 4, .c 5, .c 10] ?_
     refine RunsI.r ?_
     refine RegI.o (OpE.loadBox 4 2 23 b7 0 (.slice A91 t93.length c92) h170 (by kernel_rfl) (by kernel_rfl) rfl (by kernel_rfl) ?_)
     refine RegI.p 2 [(0, .pointer (some ⟨b7, 0, none⟩)), (6, .bool ((t93.length : Int) == 0))] ?_
     refine RegI.d ?_
     rcases of_cond h with ⟨hc172, h⟩ | ⟨hc172, h⟩
     ·skip
      refine RunsI.f 6 true hc172 ?_
      refine RunsI.b true 6 ?_
      refine RunsI.g 1 [.c 7, .c 8, .c 10] ?_
      refine RunsI.r ?_
      refine RegI.p 2 [(1, .int .u8 0), (2, .bool false)] ?_
      refine RegI.d ?_
      refine RunsI.t (.tuple #[.int .u8 0, .bool false]) ?_
      refine cont_mk ?_
      refine RegI.l [0, 10] [(0, .pointer (some ⟨b12, 0, none⟩)), (10, .tuple #[.int .u8 0, .bool false])] ?_
      exact hj195 t93 0 false A91 c92 w169 h (h170.pick [1, 2, 3, 0, 4] (by decide))
     ·skip
      refine RunsI.f 6 false hc172 ?_
      refine RunsI.b false 9 ?_
      refine RunsI.g 1 [.c 10] ?_
      refine RunsI.g 1 [.c 11, .c 12] ?_
      refine RunsI.r ?_
      refine RegI.o (OpE.loadBox 7 2 23 b7 0 (.slice A91 t93.length c92) h170 (by kernel_rfl) (by kernel_rfl) rfl (by kernel_rfl) ?_)
      obtain ⟨hc173, h⟩ := of_cond0 h
      refine RegI.o (OpE.idxSl 8 3 23 0 h170 (by kernel_rfl) rfl (by kernel_rfl) (by kernel_rfl) hc173 ?_)
      intro b174 o175 cs176 hk177 h178
      obtain rfl := hk177
      refine RegI.o (OpE.loadCel 9 5 5 b174 o175 0 (.int .u8 (rdD t93 0)) h178 (by kernel_rfl) (by kernel_rfl) rfl (by kernel_rfl) ?_)
      refine RegI.p 1 [(0, .pointer (some ⟨b7, 0, none⟩)), (3, .int .u8 (rdD t93 0))] ?_
      refine RegI.d ?_
      refine RunsI.g 1 [.c 13, .c 14] ?_
      refine RunsI.r ?_
      refine RegI.o (OpE.loadBox 10 2 23 b7 0 (.slice A91 t93.length c92) h178 (by kernel_rfl) (by kernel_rfl) rfl (by kernel_rfl) ?_)
      obtain ⟨hc179, h⟩ := of_cond0 h
      refine RegI.o (OpE.cutSl 11 3 23 (some 1) none h178 (by kernel_rfl) rfl (by kernel_rfl) (by kernel_rfl) hc179 ?_)
      intro A180 c181 h182
      refine RegI.o (OpE.storeBox 2 23 b7 0 (.slice A180 ((cutL t93 1 (t93.length : Int)).length) c181) [.slice A180 ((cutL t93 1 (t93.length : Int)).length) c181] h182 (by kernel_rfl) (by kernel_rfl) rfl (by kernel_rfl) (by kernel_rfl) (by kernel_rfl) ?_)
      intro w183 h184 hk185
      refine RegI.d ?_
      refine RunsI.g 1 [.c 15, .c 16] ?_
      refine RunsI.r ?_
      refine RegI.p 3 [(1, .int .u8 (rdD t93 0)), (2, .bool true)] ?_
      refine RegI.d ?_
      refine RunsI.t (.tuple #[.int .u8 (rdD t93 0), .bool true]) ?_
      refine cont_mk ?_
      refine RegI.l [0, 10] [(0, .pointer (some ⟨b12, 0, none⟩)), (10, .tuple #[.int .u8 (rdD t93 0), .bool true])] ?_
      exact hj195 (cutL t93 1 (t93.length : Int)) (rdD t93 0) true A180 c181 w183 h (h184.pick [1, 2, 6, 0, 4] (by decide))
    ·skip
     refine RunsI.f 35 false hc168 ?_
     refine RunsI.b false 28 ?_
     refine RunsI.g 1 [.c 29, .c 30, .blk 0, .c 43] ?_
     refine RunsI.r ?_
     refine RegI.p 3 [(2, .pointer (some ⟨b2, 0, none⟩)), (4, .pointer (some ⟨b12, 0, none⟩)), (5, .int .u8 t88), (6, .int .u8 t89), (8, .pointer (some ⟨b99, 0, none⟩)), (49, .bool (t89 == 203))] ?_
     refine RegI.d ?_
     rcases of_cond h with ⟨hc266, h⟩ | ⟨hc266, h⟩
     ·skip
      refine RunsI.f 49 true hc266 ?_
      refine RunsI.b true 31 ?_
      refine RunsI.r ?_
      refine RegI.p 1 [(2, .pointer (some ⟨b2, 0, none⟩)), (4, .pointer (some ⟨b12, 0, none⟩)), (5, .int .u8 t88), (8, .pointer (some ⟨b99, 0, none⟩)), (52, .pointer (some ⟨b12, 0, none⟩))] ?_
      refine RegI.enter 53 [2, 4, 5, 8] [(2, .pointer (some ⟨b2, 0, none⟩)), (4, .pointer (some ⟨b12, 0, none⟩)), (5, .int .u8 t88), (8, .pointer (some ⟨b99, 0, none⟩))] (by kernel_rfl) (by kernel_rfl) (by kernel_rfl) (by kernel_rfl) F150 150 rfl [.pointer (some ⟨b12, 0, none⟩)] (by kernel_rfl) (by kernel_rfl) ?_
      obtain ⟨j308, hJ309, h⟩ := of_let h
      have hj310 : ∀ (t303 : List Int) (t304 : Bool) (t305 : Int) (A301 : Option Addr) (c302 : Nat) (w307 : World), j308 (t303, t304, t305) = some r → Holds M0 w0 w307 [box b2 51 [.int .i64 0, .int .u8 0, .int .u8 0, .int .u16 0, .int .i64 0, .int .i64 0], box b12 170 [.func (.func 169) #[] #[.pointer (some ⟨b7, 0, none⟩)], .int .i64 (IntKind.wrap .i64 (t94 + 1)), .bool t304], box b7 23 [.slice A301 t303.length c302], sl (Rp.int .u8) (.slice A301 t303.length c302) t303, box b99 51 [.int .i64 0, .int .u8 t89, .int .u8 0, .int .u16 0, .int .i64 0, .int .i64 t90]] → RegI F133 31 [.blk 0, .c 43] 2 [(2, .pointer (some ⟨b2, 0, none⟩)), (4, .pointer (some ⟨b12, 0, none⟩)), (5, .int .u8 t88), (8, .pointer (some ⟨b99, 0, none⟩)), (53, .int .u8 t305)] w307 (decode_Next_133.post M0 w0 r) := by
       intro t303 t304 t305 A301 c302 w307 h h306
       rw [hJ309] at h
       clear hJ309
       dsimp only at h
       refine RegI.p 1 [(2, .pointer (some ⟨b2, 0, none⟩)), (4, .pointer (some ⟨b12, 0, none⟩)), (5, .int .u8 t88), (8, .pointer (some ⟨b99, 0, none⟩)), (53, .int .u8 t305), (54, .pointer (some ⟨b99, 0, none⟩))] ?_
       refine RegI.o (OpE.storeBox 4 3 b99 0 (.int .i64 1) [.int .i64 1, .int .u8 t89, .int .u8 0, .int .u16 0, .int .i64 0, .int .i64 t90] h306 (by kernel_rfl) (by kernel_rfl) rfl (by kernel_rfl) (by kernel_rfl) (by kernel_rfl) ?_)
       intro w311 h312 hk313
       refine RegI.p 1 [(2, .pointer (some ⟨b2, 0, none⟩)), (4, .pointer (some ⟨b12, 0, none⟩)), (5, .int .u8 t88), (8, .pointer (some ⟨b99, 0, none⟩)), (53, .int .u8 t305), (55, .pointer (some ⟨b99, 1, none⟩))] ?_
       refine RegI.o (OpE.storeBox 4 5 b99 1 (.int .u8 t305) [.int .i64 1, .int .u8 t305, .int .u8 0, .int .u16 0, .int .i64 0, .int .i64 t90] h312 (by kernel_rfl) (by kernel_rfl) rfl (by kernel_rfl) (by kernel_rfl) (by kernel_rfl) ?_)
       intro w314 h315 hk316
       refine RegI.d ?_
       refine RunsI.l [2, 4, 5, 8] [(2, .pointer (some ⟨b2, 0, none⟩)), (4, .pointer (some ⟨b12, 0, none⟩)), (5, .int .u8 t88), (8, .pointer (some ⟨b99, 0, none⟩))] ?_
       exact hj387 t303 (IntKind.wrap .i64 (t94 + 1)) t304 1 t305 0 t90 A301 c302 w314 h (h315.pick [0, 1, 2, 3, 4] (by decide))
      clear hJ309
      refine RunsI.g 1 [.c 1, .c 2] ?_
      refine RunsI.r ?_
      refine RegI.p 1 [(0, .pointer (some ⟨b12, 0, none⟩))] ?_
      refine RegI.d ?_
      refine RunsI.g 1 [.c 3, .c 4] ?_
      refine RunsI.r ?_
      refine RegI.p 3 [(0, .pointer (some ⟨b12, 0, none⟩)), (8, .pointer (some ⟨b12, 0, none⟩))] ?_
      refine RegI.o (OpE.loadBox 9 1 167 b12 0 (.func (.func 169) #[] #[.pointer (some ⟨b7, 0, none⟩)]) h163 (by kernel_rfl) (by kernel_rfl) rfl (by kernel_rfl) ?_)
      refine RegI.enter 10 [0] [(0, .pointer (some ⟨b12, 0, none⟩))] (by kernel_rfl) (by kernel_rfl) (by kernel_rfl) (by kernel_rfl) F169 169 rfl [.pointer (some ⟨b7, 0, none⟩)] (by kernel_rfl) (by kernel_rfl) ?_
      obtain ⟨j288, hJ289, h⟩ := of_let h
      have hj290 : ∀ (t283 : List Int) (t284 : Int) (t285 : Bool) (A281 : Option Addr) (c282 : Nat) (w287 : World), j288 (t283, t284, t285) = some r → Holds M0 w0 w287 [box b12 170 [.func (.func 169) #[] #[.pointer (some ⟨b7, 0, none⟩)], .int .i64 t94, .bool t95], box b7 23 [.slice A281 t283.length c282], sl (Rp.int .u8) (.slice A281 t283.length c282) t283, box b2 51 [.int .i64 0, .int .u8 0, .int .u8 0, .int .u16 0, .int .i64 0, .int .i64 0], box b99 51 [.int .i64 0, .int .u8 t89, .int .u8 0, .int .u16 0, .int .i64 0, .int .i64 t90]] → RegI F150 3 [.c 4] 5 [(0, .pointer (some ⟨b12, 0, none⟩)), (10, .tuple #[.int .u8 t284, .bool t285])] w287 (cont (fun e' w' => RegI F133 31 [.blk 0, .c 43] 2 e' w' (decode_Next_133.post M0 w0 r)) 53 [(2, .pointer (some ⟨b2, 0, none⟩)), (4, .pointer (some ⟨b12, 0, none⟩)), (5, .int .u8 t88), (8, .pointer (some ⟨b99, 0, none⟩))]) := by
       intro t283 t284 t285 A281 c282 w287 h h286
       rw [hJ289] at h
       clear hJ289
       dsimp only at h
       refine RegI.p 5 [(0, .pointer (some ⟨b12, 0, none⟩)), (3, .int .u8 t284), (4, .bool t285)] ?_
       refine RegI.d ?_
       refine RunsI.g 1 [.c 5, .c 6] ?_
       refine RunsI.r ?_
       refine RegI.p 3 [(0, .pointer (some ⟨b12, 0, none⟩)), (3, .int .u8 t284), (4, .bool t285), (13, .pointer (some ⟨b12, 0, none⟩)), (15, .pointer (some ⟨b12, 1, none⟩))] ?_
       refine RegI.o (OpE.loadBox 16 0 3 b12 1 (.int .i64 t94) h286 (by kernel_rfl) (by kernel_rfl) rfl (by kernel_rfl) ?_)
       refine RegI.p 3 [(0, .pointer (some ⟨b12, 0, none⟩)), (3, .int .u8 t284), (4, .bool t285), (17, .int .i64 (IntKind.wrap .i64 (t94 + 1))), (19, .pointer (some ⟨b12, 1, none⟩))] ?_
       refine RegI.o (OpE.storeBox 0 3 b12 1 (.int .i64 (IntKind.wrap .i64 (t94 + 1))) [.func (.func 169) #[] #[.pointer (some ⟨b7, 0, none⟩)], .int .i64 (IntKind.wrap .i64 (t94 + 1)), .bool t95] h286 (by kernel_rfl) (by kernel_rfl) rfl (by kernel_rfl) (by kernel_rfl) (by kernel_rfl) ?_)
       intro w291 h292 hk293
       refine RegI.d ?_
       refine RunsI.g 1 [.c 7, .c 8] ?_
       refine RunsI.r ?_
       refine RegI.p 4 [(3, .int .u8 t284), (4, .bool t285), (20, .pointer (some ⟨b12, 0, none⟩)), (23, .pointer (some ⟨b12, 2, none⟩))] ?_
       refine RegI.o (OpE.loadBox 24 0 4 b12 2 (.bool t95) h292 (by kernel_rfl) (by kernel_rfl) rfl (by kernel_rfl) ?_)
       refine RegI.p 1 [(3, .int .u8 t284), (4, .bool t285), (20, .pointer (some ⟨b12, 0, none⟩)), (25, .bool t95)] ?_
       rcases of_cond h with ⟨hc294, h⟩ | ⟨hc294, h⟩
       ·skip
        refine RegI.f 25 true hc294 ?_
        refine RegI.p 4 [(3, .int .u8 t284), (27, .bool t285), (29, .pointer (some ⟨b12, 2, none⟩))] ?_
        refine RegI.o (OpE.storeBox 0 4 b12 2 (.bool t285) [.func (.func 169) #[] #[.pointer (some ⟨b7, 0, none⟩)], .int .i64 (IntKind.wrap .i64 (t94 + 1)), .bool t285] h292 (by kernel_rfl) (by kernel_rfl) rfl (by kernel_rfl) (by kernel_rfl) (by kernel_rfl) ?_)
        intro w295 h296 hk297
        refine RegI.d ?_
        refine RunsI.g 1 [.c 9, .c 10] ?_
        refine RunsI.r ?_
        refine RegI.p 2 [(2, .int .u8 t284)] ?_
        refine RegI.d ?_
        refine RunsI.t (.int .u8 t284) ?_
        refine cont_mk ?_
        refine RegI.l [2, 4, 5, 8, 53] [(2, .pointer (some ⟨b2, 0, none⟩)), (4, .pointer (some ⟨b12, 0, none⟩)), (5, .int .u8 t88), (8, .pointer (some ⟨b99, 0, none⟩)), (53, .int .u8 t284)] ?_
        exact hj310 t283 t285 t284 A281 c282 w295 h (h296.pick [3, 0, 1, 2, 4] (by decide))
       ·skip
        refine RegI.f 25 false hc294 ?_
        refine RegI.p 4 [(3, .int .u8 t284), (27, .bool false), (29, .pointer (some ⟨b12, 2, none⟩))] ?_
        refine RegI.o (OpE.storeBox 0 4 b12 2 (.bool false) [.func (.func 169) #[] #[.pointer (some ⟨b7, 0, none⟩)], .int .i64 (IntKind.wrap .i64 (t94 + 1)), .bool false] h292 (by kernel_rfl) (by kernel_rfl) rfl (by kernel_rfl) (by kernel_rfl) (by kernel_rfl) ?_)
        intro w298 h299 hk300
        refine RegI.d ?_
        refine RunsI.g 1 [.c 9, .c 10] ?_
        refine RunsI.r ?_
        refine RegI.p 2 [(2, .int .u8 t284)] ?_
        refine RegI.d ?_
        refine RunsI.t (.int .u8 t284) ?_
        refine cont_mk ?_
        refine RegI.l [2, 4, 5, 8, 53] [(2, .pointer (some ⟨b2, 0, none⟩)), (4, .pointer (some ⟨b12, 0, none⟩)), (5, .int .u8 t88), (8, .pointer (some ⟨b99, 0, none⟩)), (53, .int .u8 t284)] ?_
        exact hj310 t283 false t284 A281 c282 w298 h (h299.pick [3, 0, 1, 2, 4] (by decide))
      clear hJ289
      refine RunsI.g 1 [.c 1, .c 2] ?_
      refine RunsI.r ?_
      refine RegI.p 2 [(0, .pointer (some ⟨b7, 0, none⟩))] ?_
      refine RegI.d ?_
      refine RunsI.g 2 [.c 4, .c 5, .c 10] ?_
      refine RunsI.r ?_
      refine RegI.o (OpE.loadBox 4 2 23 b7 0 (.slice A91 t93.length c92) h163 (by kernel_rfl) (by kernel_rfl) rfl (by kernel_rfl) ?_)
      refine RegI.p 2 [(0, .pointer (some ⟨b7, 0, none⟩)), (6, .bool ((t93.length : Int) == 0))] ?_
      refine RegI.d ?_
      rcases of_cond h with ⟨hc267, h⟩ | ⟨hc267, h⟩
      ·skip
       refine RunsI.f 6 true hc267 ?_
       refine RunsI.b true 6 ?_
       refine RunsI.g 1 [.c 7, .c 8, .c 10] ?_
       refine RunsI.r ?_
       refine RegI.p 2 [(1, .int .u8 0), (2, .bool false)] ?_
       refine RegI.d ?_
       refine RunsI.t (.tuple #[.int .u8 0, .bool false]) ?_
       refine cont_mk ?_
       refine RegI.l [0, 10] [(0, .pointer (some ⟨b12, 0, none⟩)), (10, .tuple #[.int .u8 0, .bool false])] ?_
       exact hj290 t93 0 false A91 c92 w164 h (h163.pick [1, 2, 3, 0, 4] (by decide))
      ·skip
       refine RunsI.f 6 false hc267 ?_
       refine RunsI.b false 9 ?_
       refine RunsI.g 1 [.c 10] ?_
       refine RunsI.g 1 [.c 11, .c 12] ?_
       refine RunsI.r ?_
       refine RegI.o (OpE.loadBox 7 2 23 b7 0 (.slice A91 t93.length c92) h163 (by kernel_rfl) (by kernel_rfl) rfl (by kernel_rfl) ?_)
       obtain ⟨hc268, h⟩ := of_cond0 h
       refine RegI.o (OpE.idxSl 8 3 23 0 h163 (by kernel_rfl) rfl (by kernel_rfl) (by kernel_rfl) hc268 ?_)
       intro b269 o270 cs271 hk272 h273
       obtain rfl := hk272
       refine RegI.o (OpE.loadCel 9 5 5 b269 o270 0 (.int .u8 (rdD t93 0)) h273 (by kernel_rfl) (by kernel_rfl) rfl (by kernel_rfl) ?_)
       refine RegI.p 1 [(0, .pointer (some ⟨b7, 0, none⟩)), (3, .int .u8 (rdD t93 0))] ?_
       refine RegI.d ?_
       refine RunsI.g 1 [.c 13, .c 14] ?_
       refine RunsI.r ?_
       refine RegI.o (OpE.loadBox 10 2 23 b7 0 (.slice A91 t93.length c92) h273 (by kernel_rfl) (by kernel_rfl) rfl (by kernel_rfl) ?_)
       obtain ⟨hc274, h⟩ := of_cond0 h
       refine RegI.o (OpE.cutSl 11 3 23 (some 1) none h273 (by kernel_rfl) rfl (by kernel_rfl) (by kernel_rfl) hc274 ?_)
       intro A275 c276 h277
       refine RegI.o (OpE.storeBox 2 23 b7 0 (.slice A275 ((cutL t93 1 (t93.length : Int)).length) c276) [.slice A275 ((cutL t93 1 (t93.length : Int)).length) c276] h277 (by kernel_rfl) (by kernel_rfl) rfl (by kernel_rfl) (by kernel_rfl) (by kernel_rfl) ?_)
       intro w278 h279 hk280
       refine RegI.d ?_
       refine RunsI.g 1 [.c 15, .c 16] ?_
       refine RunsI.r ?_
       refine RegI.p 3 [(1, .int .u8 (rdD t93 0)), (2, .bool true)] ?_
       refine RegI.d ?_
       refine RunsI.t (.tuple #[.int .u8 (rdD t93 0), .bool true]) ?_
       refine cont_mk ?_
       refine RegI.l [0, 10] [(0, .pointer (some ⟨b12, 0, none⟩)), (10, .tuple #[.int .u8 (rdD t93 0), .bool true])] ?_
       exact hj290 (cutL t93 1 (t93.length : Int)) (rdD t93 0) true A275 c276 w278 h (h279.pick [1, 2, 6, 0, 4] (by decide))
     ·skip
      refine RunsI.f 49 false hc266 ?_
      refine RunsI.b false 32 ?_
      refine RunsI.g 1 [.c 33, .c 34, .blk 0, .c 43] ?_
      refine RunsI.r ?_
      refine RegI.p 3 [(2, .pointer (some ⟨b2, 0, none⟩)), (4, .pointer (some ⟨b12, 0, none⟩)), (5, .int .u8 t88), (6, .int .u8 t89), (8, .pointer (some ⟨b99, 0, none⟩)), (56, .bool (t88 != 0))] ?_
      refine RegI.d ?_
      rcases of_cond h with ⟨hc317, h⟩ | ⟨hc317, h⟩
      ·skip
       refine RunsI.f 56 true hc317 ?_
       refine RunsI.b true 35 ?_
       refine RunsI.g 1 [.c 36, .c 37, .blk 0, .c 43] ?_
       refine RunsI.r ?_
       refine RegI.p 1 [(2, .pointer (some ⟨b2, 0, none⟩)), (4, .pointer (some ⟨b12, 0, none⟩)), (5, .int .u8 t88), (6, .int .u8 t89), (8, .pointer (some ⟨b99, 0, none⟩)), (59, .pointer (some ⟨b99, 0, none⟩))] ?_
       refine RegI.o (OpE.storeBox 4 3 b99 0 (.int .i64 3) [.int .i64 3, .int .u8 t89, .int .u8 0, .int .u16 0, .int .i64 0, .int .i64 t90] h163 (by kernel_rfl) (by kernel_rfl) rfl (by kernel_rfl) (by kernel_rfl) (by kernel_rfl) ?_)
       intro w318 h319 hk320
       refine RegI.d ?_
       refine RunsI.g 1 [.c 38, .c 39, .blk 0, .c 43] ?_
       refine RunsI.r ?_
       refine RegI.p 1 [(2, .pointer (some ⟨b2, 0, none⟩)), (4, .pointer (some ⟨b12, 0, none⟩)), (5, .int .u8 t88), (6, .int .u8 t89), (8, .pointer (some ⟨b99, 0, none⟩)), (60, .pointer (some ⟨b99, 0, none⟩))] ?_
       refine RegI.o (OpE.loadBox 61 4 3 b99 0 (.int .i64 3) h319 (by kernel_rfl) (by kernel_rfl) rfl (by kernel_rfl) ?_)
       refine RegI.p 1 [(2, .pointer (some ⟨b2, 0, none⟩)), (4, .pointer (some ⟨b12, 0, none⟩)), (5, .int .u8 t88), (8, .pointer (some ⟨b99, 0, none⟩)), (61, .int .i64 3), (62, .int .u8 t89)] ?_
       obtain ⟨t325, hg324, h⟩ := of_bind h
       refine RegI.o (OpE.call 63 (by kernel_rfl) 120 #[.int .i64 3, .int .u8 t89] (by kernel_rfl) ((decode_Near_120_ok K _ w318  3 t89 h319.old' hg324).mono ?_))
       rintro _ w321 ⟨rfl, hb322⟩
       refine ⟨_, rfl, ?_⟩
       have h323 := h319.call hb322
       refine RegI.d ?_
       rcases of_cond h with ⟨hc326, h⟩ | ⟨hc326, h⟩
       ·skip
        refine RunsI.f 63 true hc326 ?_
        refine RunsI.b true 40 ?_
        refine RunsI.r ?_
        refine RegI.p 1 [(2, .pointer (some ⟨b2, 0, none⟩)), (4, .pointer (some ⟨b12, 0, none⟩)), (5, .int .u8 t88), (8, .pointer (some ⟨b99, 0, none⟩)), (64, .pointer (some ⟨b12, 0, none⟩))] ?_
        refine RegI.enter 65 [2, 4, 5, 8] [(2, .pointer (some ⟨b2, 0, none⟩)), (4, .pointer (some ⟨b12, 0, none⟩)), (5, .int .u8 t88), (8, .pointer (some ⟨b99, 0, none⟩))] (by kernel_rfl) (by kernel_rfl) (by kernel_rfl) (by kernel_rfl) F150 150 rfl [.pointer (some ⟨b12, 0, none⟩)] (by kernel_rfl) (by kernel_rfl) ?_
        obtain ⟨j368, hJ369, h⟩ := of_let h
        have hj370 : ∀ (t363 : List Int) (t364 : Bool) (t365 : Int) (A361 : Option Addr) (c362 : Nat) (w367 : World), j368 (t363, t364, t365) = some r → Holds M0 w0 w367 [box b2 51 [.int .i64 0, .int .u8 0, .int .u8 0, .int .u16 0, .int .i64 0, .int .i64 0], box b12 170 [.func (.func 169) #[] #[.pointer (some ⟨b7, 0, none⟩)], .int .i64 (IntKind.wrap .i64 (t94 + 1)), .bool t364], box b7 23 [.slice A361 t363.length c362], sl (Rp.int .u8) (.slice A361 t363.length c362) t363, box b99 51 [.int .i64 3, .int .u8 t89, .int .u8 0, .int .u16 0, .int .i64 0, .int .i64 t90]] → RegI F133 40 [.blk 0, .c 43] 2 [(2, .pointer (some ⟨b2, 0, none⟩)), (4, .pointer (some ⟨b12, 0, none⟩)), (5, .int .u8 t88), (8, .pointer (some ⟨b99, 0, none⟩)), (65, .int .u8 t365)] w367 (decode_Next_133.post M0 w0 r) := by
         intro t363 t364 t365 A361 c362 w367 h h366
         rw [hJ369] at h
         clear hJ369
         dsimp only at h
         refine RegI.p 1 [(2, .pointer (some ⟨b2, 0, none⟩)), (4, .pointer (some ⟨b12, 0, none⟩)), (5, .int .u8 t88), (8, .pointer (some ⟨b99, 0, none⟩)), (65, .int .u8 t365), (66, .pointer (some ⟨b99, 2, none⟩))] ?_
         refine RegI.o (OpE.storeBox 4 5 b99 2 (.int .u8 t365) [.int .i64 3, .int .u8 t89, .int .u8 t365, .int .u16 0, .int .i64 0, .int .i64 t90] h366 (by kernel_rfl) (by kernel_rfl) rfl (by kernel_rfl) (by kernel_rfl) (by kernel_rfl) ?_)
         intro w371 h372 hk373
         refine RegI.d ?_
         refine RunsI.l [2, 4, 5, 8] [(2, .pointer (some ⟨b2, 0, none⟩)), (4, .pointer (some ⟨b12, 0, none⟩)), (5, .int .u8 t88), (8, .pointer (some ⟨b99, 0, none⟩))] ?_
         exact hj387 t363 (IntKind.wrap .i64 (t94 + 1)) t364 3 t89 t365 t90 A361 c362 w371 h (h372.pick [0, 1, 2, 3, 4] (by decide))
        clear hJ369
        refine RunsI.g 1 [.c 1, .c 2] ?_
        refine RunsI.r ?_
        refine RegI.p 1 [(0, .pointer (some ⟨b12, 0, none⟩))] ?_
        refine RegI.d ?_
        refine RunsI.g 1 [.c 3, .c 4] ?_
        refine RunsI.r ?_
        refine RegI.p 3 [(0, .pointer (some ⟨b12, 0, none⟩)), (8, .pointer (some ⟨b12, 0, none⟩))] ?_
        refine RegI.o (OpE.loadBox 9 1 167 b12 0 (.func (.func 169) #[] #[.pointer (some ⟨b7, 0, none⟩)]) h323 (by kernel_rfl) (by kernel_rfl) rfl (by kernel_rfl) ?_)
        refine RegI.enter 10 [0] [(0, .pointer (some ⟨b12, 0, none⟩))] (by kernel_rfl) (by kernel_rfl) (by kernel_rfl) (by kernel_rfl) F169 169 rfl [.pointer (some ⟨b7, 0, none⟩)] (by kernel_rfl) (by kernel_rfl) ?_
        obtain ⟨j348, hJ349, h⟩ := of_let h
        have hj350 : ∀ (t343 : List Int) (t344 : Int) (t345 : Bool) (A341 : Option Addr) (c342 : Nat) (w347 : World), j348 (t343, t344, t345) = some r → Holds M0 w0 w347 [box b12 170 [.func (.func 169) #[] #[.pointer (some ⟨b7, 0, none⟩)], .int .i64 t94, .bool t95], box b7 23 [.slice A341 t343.length c342], sl (Rp.int .u8) (.slice A341 t343.length c342) t343, box b2 51 [.int .i64 0, .int .u8 0, .int .u8 0, .int .u16 0, .int .i64 0, .int .i64 0], box b99 51 [.int .i64 3, .int .u8 t89, .int .u8 0, .int .u16 0, .int .i64 0, .int .i64 t90]] → RegI F150 3 [.c 4] 5 [(0, .pointer (some ⟨b12, 0, none⟩)), (10, .tuple #[.int .u8 t344, .bool t345])] w347 (cont (fun e' w' => RegI F133 40 [.blk 0, .c 43] 2 e' w' (decode_Next_133.post M0 w0 r)) 65 [(2, .pointer (some ⟨b2, 0, none⟩)), (4, .pointer (some ⟨b12, 0, none⟩)), (5, .int .u8 t88), (8, .pointer (some ⟨b99, 0, none⟩))]) := by
         intro t343 t344 t345 A341 c342 w347 h h346
         rw [hJ349] at h
         clear hJ349
         dsimp only at h
         refine RegI.p 5 [(0, .pointer (some ⟨b12, 0, none⟩)), (3, .int .u8 t344), (4, .bool t345)] ?_
         refine RegI.d ?_
         refine RunsI.g 1 [.c 5, .c 6] ?_
         refine RunsI.r ?_
         refine RegI.p 3 [(0, .pointer (some ⟨b12, 0, none⟩)), (3, .int .u8 t344), (4, .bool t345), (13, .pointer (some ⟨b12, 0, none⟩)), (15, .pointer (some ⟨b12, 1, none⟩))] ?_
         refine RegI.o (OpE.loadBox 16 0 3 b12 1 (.int .i64 t94) h346 (by kernel_rfl) (by kernel_rfl) rfl (by kernel_rfl) ?_)
         refine RegI.p 3 [(0, .pointer (some ⟨b12, 0, none⟩)), (3, .int .u8 t344), (4, .bool t345), (17, .int .i64 (IntKind.wrap .i64 (t94 + 1))), (19, .pointer (some ⟨b12, 1, none⟩))] ?_
         refine RegI.o (OpE.storeBox 0 3 b12 1 (.int .i64 (IntKind.wrap .i64 (t94 + 1))) [.func (.func 169) #[] #[.pointer (some ⟨b7, 0, none⟩)], .int .i64 (IntKind.wrap .i64 (t94 + 1)), .bool t95] h346 (by kernel_rfl) (by kernel_rfl) rfl (by kernel_rfl) (by kernel_rfl) (by kernel_rfl) ?_)
         intro w351 h352 hk353
         refine RegI.d ?_
         refine RunsI.g 1 [.c 7, .c 8] ?_
         refine RunsI.r ?_
         refine RegI.p 4 [(3, .int .u8 t344), (4, .bool t345), (20, .pointer (some ⟨b12, 0, none⟩)), (23, .pointer (some ⟨b12, 2, none⟩))] ?_
         refine RegI.o (OpE.loadBox 24 0 4 b12 2 (.bool t95) h352 (by kernel_rfl) (by kernel_rfl) rfl (by kernel_rfl) ?_)
         refine RegI.p 1 [(3, .int .u8 t344), (4, .bool t345), (20, .pointer (some ⟨b12, 0, none⟩)), (25, .bool t95)] ?_
         rcases of_cond h with ⟨hc354, h⟩ | ⟨hc354, h⟩
         ·skip
          refine RegI.f 25 true hc354 ?_
          refine RegI.p 4 [(3, .int .u8 t344), (27, .bool t345), (29, .pointer (some ⟨b12, 2, none⟩))] ?_
          refine RegI.o (OpE.storeBox 0 4 b12 2 (.bool t345) [.func (.func 169) #[] #[.pointer (some ⟨b7, 0, none⟩)], .int .i64 (IntKind.wrap .i64 (t94 + 1)), .bool t345] h352 (by kernel_rfl) (by kernel_rfl) rfl (by kernel_rfl) (by kernel_rfl) (by kernel_rfl) ?_)
          intro w355 h356 hk357
          refine RegI.d ?_
          refine RunsI.g 1 [.c 9, .c 10] ?_
          refine RunsI.r ?_
          refine RegI.p 2 [(2, .int .u8 t344)] ?_
          refine RegI.d ?_
          refine RunsI.t (.int .u8 t344) ?_
          refine cont_mk ?_
          refine RegI.l [2, 4, 5, 8, 65] [(2, .pointer (some ⟨b2, 0, none⟩)), (4, .pointer (some ⟨b12, 0, none⟩)), (5, .int .u8 t88), (8, .pointer (some ⟨b99, 0, none⟩)), (65, .int .u8 t344)] ?_
          exact hj370 t343 t345 t344 A341 c342 w355 h (h356.pick [3, 0, 1, 2, 4] (by decide))
         ·skip
          refine RegI.f 25 false hc354 ?_
          refine RegI.p 4 [(3, .int .u8 t344), (27, .bool false), (29, .pointer (some ⟨b12, 2, none⟩))] ?_
          refine RegI.o (OpE.storeBox 0 4 b12 2 (.bool false) [.func (.func 169) #[] #[.pointer (some ⟨b7, 0, none⟩)], .int .i64 (IntKind.wrap .i64 (t94 + 1)), .bool false] h352 (by kernel_rfl) (by kernel_rfl) rfl (by kernel_rfl) (by kernel_rfl) (by kernel_rfl) ?_)
          intro w358 h359 hk360
          refine RegI.d ?_
          refine RunsI.g 1 [.c 9, .c 10] ?_
          refine RunsI.r ?_
          refine RegI.p 2 [(2, .int .u8 t344)] ?_
          refine RegI.d ?_
          refine RunsI.t (.int .u8 t344) ?_
          refine cont_mk ?_
          refine RegI.l [2, 4, 5, 8, 65] [(2, .pointer (some ⟨b2, 0, none⟩)), (4, .pointer (some ⟨b12, 0, none⟩)), (5, .int .u8 t88), (8, .pointer (some ⟨b99, 0, none⟩)), (65, .int .u8 t344)] ?_
          exact hj370 t343 false t344 A341 c342 w358 h (h359.pick [3, 0, 1, 2, 4] (by decide))
        clear hJ349
        refine RunsI.g 1 [.c 1, .c 2] ?_
        refine RunsI.r ?_
        refine RegI.p 2 [(0, .pointer (some ⟨b7, 0, none⟩))] ?_
        refine RegI.d ?_
        refine RunsI.g 2 [.c 4, .c 5, .c 10] ?_
        refine RunsI.r ?_
        refine RegI.o (OpE.loadBox 4 2 23 b7 0 (.slice A91 t93.length c92) h323 (by kernel_rfl) (by kernel_rfl) rfl (by kernel_rfl) ?_)
        refine RegI.p 2 [(0, .pointer (some ⟨b7, 0, none⟩)), (6, .bool ((t93.length : Int) == 0))] ?_
        refine RegI.d ?_
        rcases of_cond h with ⟨hc327, h⟩ | ⟨hc327, h⟩
        ·skip
         refine RunsI.f 6 true hc327 ?_
         refine RunsI.b true 6 ?_
         refine RunsI.g 1 [.c 7, .c 8, .c 10] ?_
         refine RunsI.r ?_
         refine RegI.p 2 [(1, .int .u8 0), (2, .bool false)] ?_
         refine RegI.d ?_
         refine RunsI.t (.tuple #[.int .u8 0, .bool false]) ?_
         refine cont_mk ?_
         refine RegI.l [0, 10] [(0, .pointer (some ⟨b12, 0, none⟩)), (10, .tuple #[.int .u8 0, .bool false])] ?_
         exact hj350 t93 0 false A91 c92 w321 h (h323.pick [1, 2, 3, 0, 4] (by decide))
        ·skip
         refine RunsI.f 6 false hc327 ?_
         refine RunsI.b false 9 ?_
         refine RunsI.g 1 [.c 10] ?_
         refine RunsI.g 1 [.c 11, .c 12] ?_
         refine RunsI.r ?_
         refine RegI.o (OpE.loadBox 7 2 23 b7 0 (.slice A91 t93.length c92) h323 (by kernel_rfl) (by kernel_rfl) rfl (by kernel_rfl) ?_)
         obtain ⟨hc328, h⟩ := of_cond0 h
         refine RegI.o (OpE.idxSl 8 3 23 0 h323 (by kernel_rfl) rfl (by kernel_rfl) (by kernel_rfl) hc328 ?_)
         intro b329 o330 cs331 hk332 h333
         obtain rfl := hk332
         refine RegI.o (OpE.loadCel 9 5 5 b329 o330 0 (.int .u8 (rdD t93 0)) h333 (by kernel_rfl) (by kernel_rfl) rfl (by kernel_rfl) ?_)
         refine RegI.p 1 [(0, .pointer (some ⟨b7, 0, none⟩)), (3, .int .u8 (rdD t93 0))] ?_
         refine RegI.d ?_
         refine RunsI.g 1 [.c 13, .c 14] ?_
         refine RunsI.r ?_
         refine RegI.o (OpE.loadBox 10 2 23 b7 0 (.slice A91 t93.length c92) h333 (by kernel_rfl) (by kernel_rfl) rfl (by kernel_rfl) ?_)
         obtain ⟨hc334, h⟩ := of_cond0 h
         refine RegI.o (OpE.cutSl 11 3 23 (some 1) none h333 (by kernel_rfl) rfl (by kernel_rfl) (by kernel_rfl) hc334 ?_)
         intro A335 c336 h337
         refine RegI.o (OpE.storeBox 2 23 b7 0 (.slice A335 ((cutL t93 1 (t93.length : Int)).length) c336) [.slice A335 ((cutL t93 1 (t93.length : Int)).length) c336] h337 (by kernel_rfl) (by kernel_rfl) rfl (by kernel_rfl) (by kernel_rfl) (by kernel_rfl) ?_)
         intro w338 h339 hk340
         refine RegI.d ?_
         refine RunsI.g 1 [.c 15, .c 16] ?_
         refine RunsI.r ?_
         refine RegI.p 3 [(1, .int .u8 (rdD t93 0)), (2, .bool true)] ?_
         refine RegI.d ?_
         refine RunsI.t (.tuple #[.int .u8 (rdD t93 0), .bool true]) ?_
         refine cont_mk ?_
         refine RegI.l [0, 10] [(0, .pointer (some ⟨b12, 0, none⟩)), (10, .tuple #[.int .u8 (rdD t93 0), .bool true])] ?_
         exact hj350 (cutL t93 1 (t93.length : Int)) (rdD t93 0) true A335 c336 w338 h (h339.pick [1, 2, 6, 0, 4] (by decide))
       ·skip
        refine RunsI.f 63 false hc326 ?_
        refine RunsI.b false 41 ?_
        refine RunsI.g 1 [.blk 0, .c 43] ?_
        refine RunsI.l [2, 4, 5, 8] [(2, .pointer (some ⟨b2, 0, none⟩)), (4, .pointer (some ⟨b12, 0, none⟩)), (5, .int .u8 t88), (8, .pointer (some ⟨b99, 0, none⟩))] ?_
        exact hj387 t93 t94 t95 3 t89 0 t90 A91 c92 w321 h (h323.pick [0, 1, 2, 3, 4] (by decide))
      ·skip
       refine RunsI.f 56 false hc317 ?_
       refine RunsI.b false 42 ?_
       refine RunsI.g 1 [.blk 0, .c 43] ?_
       refine RunsI.l [2, 4, 5, 8] [(2, .pointer (some ⟨b2, 0, none⟩)), (4, .pointer (some ⟨b12, 0, none⟩)), (5, .int .u8 t88), (8, .pointer (some ⟨b99, 0, none⟩))] ?_
       exact hj387 t93 t94 t95 0 t89 0 t90 A91 c92 w164 h (h163.pick [0, 1, 2, 3, 4] (by decide))
   clear hJ166
   rcases of_cond h with ⟨hc161, h⟩ | ⟨hc161, h⟩
   ·skip
    refine RegI.f 38 true hc161 ?_
    refine RegI.p 4 [(2, .pointer (some ⟨b2, 0, none⟩)), (4, .pointer (some ⟨b12, 0, none⟩)), (5, .int .u8 t88), (6, .int .u8 t89), (8, .pointer (some ⟨b99, 0, none⟩)), (35, .bool (t88 != 0))] ?_
    refine RegI.l [2, 4, 5, 6, 8, 35] [(2, .pointer (some ⟨b2, 0, none⟩)), (4, .pointer (some ⟨b12, 0, none⟩)), (5, .int .u8 t88), (6, .int .u8 t89), (8, .pointer (some ⟨b99, 0, none⟩)), (35, .bool (t88 != 0))] ?_
    exact hj167 (t88 != 0) w103 h (h104.pick [0, 1, 2, 3, 4] (by decide))
   ·skip
    refine RegI.f 38 false hc161 ?_
    refine RegI.p 4 [(2, .pointer (some ⟨b2, 0, none⟩)), (4, .pointer (some ⟨b12, 0, none⟩)), (5, .int .u8 t88), (6, .int .u8 t89), (8, .pointer (some ⟨b99, 0, none⟩)), (35, .bool false)] ?_
    refine RegI.l [2, 4, 5, 6, 8, 35] [(2, .pointer (some ⟨b2, 0, none⟩)), (4, .pointer (some ⟨b12, 0, none⟩)), (5, .int .u8 t88), (6, .int .u8 t89), (8, .pointer (some ⟨b99, 0, none⟩)), (35, .bool false)] ?_
    exact hj167 false w103 h (h104.pick [0, 1, 2, 3, 4] (by decide))
end

/-! ### charabanc/decode.All (function 79) -/
section
def decode_All_79.post (M0 : Nat → Prop) (w0 : World) (r : (List (Int × Int × Int × Int × Int × Int)) × Int) : Ending → World → Prop := fun e w => ∃ (A1 : Option Addr) (c1 : Nat), e = .returned (.tuple #[.slice A1 r.1.length c1, .int .i64 r.2]) ∧ Holds M0 w0 w [own (Rp.pair (Rp.int .i64) (Rp.pair (Rp.int .u8) (Rp.pair (Rp.int .u8) (Rp.pair (Rp.int .u16) (Rp.pair (Rp.int .i64) (Rp.int .i64)))))) 51 (.slice A1 r.1.length c1) r.1]
def decode_All_79.l0 (K : Nat) (p0 : List Int) : Nat → (List (Int × Int × Int × Int × Int × Int)) → Int → (List Int) → Option ((List (Int × Int × Int × Int × Int × Int)) × Int × (List Int))
 | 0, _, _, _ => none
 | k + 1, t31, t33, t37 => (decode_Next_133.f K t37).bind fun yt43 => Let (fun (yj97 : (List (Int × Int × Int × Int × Int × Int)) × Int × Bool) => cond yj97.2.2 (some (yj97.1, yj97.2.1, t37)) (cond (cutR yt43.2.2.2.2.1 (t37.length : Int) t37.length) (decode_All_79.l0 K p0 k yj97.1 yj97.2.1 (cutL t37 yt43.2.2.2.2.1 (t37.length : Int))) none)) (fun j97 => cond (!yt43.2.2.2.2.2.2) (j97 (t31, t33, true)) (cond (mayBe (t31.length + ([(yt43.1, yt43.2.1, yt43.2.2.1, yt43.2.2.2.1, yt43.2.2.2.2.1, yt43.2.2.2.2.2.1)] : List (Int × Int × Int × Int × Int × Int)).length) 32) (j97 ((t31 ++ ([(yt43.1, yt43.2.1, yt43.2.2.1, yt43.2.2.2.1, yt43.2.2.2.2.1, yt43.2.2.2.2.2.1)] : List (Int × Int × Int × Int × Int × Int))), (IntKind.wrap .i64 (t33 - yt43.2.2.2.2.1)), false)) none))
set_option maxRecDepth 100000 in
theorem decode_All_79.l0_ok (K : Nat) (M0 : Nat → Prop) (w0 : World) (pA0 : Option Addr) (pc0 : Nat) (p0 : List Int) (b27 : Nat) (b28 : Nat) (b32 : Nat) (b34 : Nat) (b38 : Nat) (R : Ending → World → Prop) (x : (List (Int × Int × Int × Int × Int × Int)) × Int × (List Int)) (hk0 : ∀ (t110 : List (Int × Int × Int × Int × Int × Int)) (t111 : Int) (t114 : List Int) (A108 : Option Addr) (c109 : Nat) (A112 : Option Addr) (c113 : Nat) (w1 : World), x = (t110, t111, t114) → Holds M0 w0 w1 [box b28 116 [.slice A108 t110.length c109], own (Rp.pair (Rp.int .i64) (Rp.pair (Rp.int .u8) (Rp.pair (Rp.int .u8) (Rp.pair (Rp.int .u16) (Rp.pair (Rp.int .i64) (Rp.int .i64)))))) 51 (.slice A108 t110.length c109) t110, box b32 3 [.int .i64 t111], rng F79 10 b27 [(4, .pointer (some ⟨b28, 0, none⟩)), (5, .pointer (some ⟨b32, 0, none⟩)), (10, .func (.func 132) #[] #[.pointer (some ⟨b34, 0, none⟩)])] .ready none, box b34 23 [.slice A112 t114.length c113], sl (Rp.int .u8) (.slice A112 t114.length c113) t114, dfr b38] → R (.returned (.tuple #[])) w1) :
  ∀ (k : Nat) (t31 : List (Int × Int × Int × Int × Int × Int)) (t33 : Int) (t37 : List Int) (A29 : Option Addr) (c30 : Nat) (A35 : Option Addr) (c36 : Nat) (w : World), decode_All_79.l0 K p0 k t31 t33 t37 = some x → Holds M0 w0 w [rng F79 10 b27 [(4, .pointer (some ⟨b28, 0, none⟩)), (5, .pointer (some ⟨b32, 0, none⟩)), (10, .func (.func 132) #[] #[.pointer (some ⟨b34, 0, none⟩)])] .ready none, box b28 116 [.slice A29 t31.length c30], own (Rp.pair (Rp.int .i64) (Rp.pair (Rp.int .u8) (Rp.pair (Rp.int .u8) (Rp.pair (Rp.int .u16) (Rp.pair (Rp.int .i64) (Rp.int .i64)))))) 51 (.slice A29 t31.length c30) t31, box b32 3 [.int .i64 t33], box b34 23 [.slice A35 t37.length c36], sl (Rp.int .u8) (.slice A35 t37.length c36) t37, dfr b38] → RunsI F132 [.c 2, .lp 2, .blk 0] [(0, .func (.yield b27) #[] #[]), (1, .pointer (some ⟨b34, 0, none⟩))] w R := by
 intro k
 induction k with
 | zero => intro t31 t33 t37 A29 c30 A35 c36 w h hH; exact absurd h (by simp [decode_All_79.l0])
 | succ k ih =>
  intro t31 t33 t37 A29 c30 A35 c36 w h hH
  rw [decode_All_79.l0.eq_2] at h
  refine RunsI.g 1 [.c 3, .blk 1, .lp 2, .blk 0] ?_
  refine RunsI.g 1 [.c 4, .c 5, .blk 1, .lp 2, .blk 0] ?_
  refine RunsI.r ?_
  refine RegI.o (OpE.loadBox 6 4 23 b34 0 (.slice A35 t37.length c36) hH (by kernel_rfl) (by kernel_rfl) rfl (by kernel_rfl) ?_)
  obtain ⟨⟨t43, t44, t45, t46, t47, t48, t49⟩, hg42, h⟩ := of_bind h
  dsimp only at h
  refine RegI.o (OpE.call 7 (by kernel_rfl) 133 #[.slice A35 t37.length c36] (by kernel_rfl) ((decode_Next_133_ok K _ w  A35 c36 t37 hH.old' (hH.get 5 rfl) hg42).mono ?_))
  rintro _ w39 ⟨rfl, hb40⟩
  refine ⟨_, rfl, ?_⟩
  have h41 := hH.call hb40
  refine RegI.p 3 [(0, .func (.yield b27) #[] #[]), (1, .pointer (some ⟨b34, 0, none⟩)), (8, .agg #[.int .i64 t43, .int .u8 t44, .int .u8 t45, .int .u16 t46, .int .i64 t47, .int .i64 t48]), (9, .bool t49)] ?_
  refine RegI.o (OpE.box 3 51 [.int .i64 0, .int .u8 0, .int .u8 0, .int .u16 0, .int .i64 0, .int .i64 0] h41 (by kernel_rfl) (by kernel_rfl) ?_)
  intro w50 b51 h52 hb53 hn54
  refine RegI.o (OpE.storeBox 7 51 b51 0 (.agg #[.int .i64 t43, .int .u8 t44, .int .u8 t45, .int .u16 t46, .int .i64 t47, .int .i64 t48]) [.int .i64 t43, .int .u8 t44, .int .u8 t45, .int .u16 t46, .int .i64 t47, .int .i64 t48] h52 (by kernel_rfl) (by kernel_rfl) rfl (by kernel_rfl) (by kernel_rfl) (by kernel_rfl) ?_)
  intro w55 h56 hk57
  refine RegI.p 1 [(0, .func (.yield b27) #[] #[]), (1, .pointer (some ⟨b34, 0, none⟩)), (3, .pointer (some ⟨b51, 0, none⟩)), (4, .bool t49)] ?_
  refine RegI.d ?_
  refine RunsI.g 2 [.c 7, .c 8, .c 11, .blk 1, .lp 2, .blk 0] ?_
  refine RunsI.r ?_
  refine RegI.p 3 [(0, .func (.yield b27) #[] #[]), (1, .pointer (some ⟨b34, 0, none⟩)), (3, .pointer (some ⟨b51, 0, none⟩)), (12, .bool (!t49))] ?_
  obtain ⟨j97, hJ98, h⟩ := of_let h
  have hj99 : ∀ (t92 : List (Int × Int × Int × Int × Int × Int)) (t93 : Int) (t94 : Bool) (A90 : Option Addr) (c91 : Nat) (w96 : World), j97 (t92, t93, t94) = some x → Holds M0 w0 w96 [rng F79 10 b27 [(4, .pointer (some ⟨b28, 0, none⟩)), (5, .pointer (some ⟨b32, 0, none⟩)), (10, .func (.func 132) #[] #[.pointer (some ⟨b34, 0, none⟩)])] .ready none, box b28 116 [.slice A90 t92.length c91], own (Rp.pair (Rp.int .i64) (Rp.pair (Rp.int .u8) (Rp.pair (Rp.int .u8) (Rp.pair (Rp.int .u16) (Rp.pair (Rp.int .i64) (Rp.int .i64)))))) 51 (.slice A90 t92.length c91) t92, box b32 3 [.int .i64 t93], box b34 23 [.slice A35 t37.length c36], sl (Rp.int .u8) (.slice A35 t37.length c36) t37, box b51 51 [.int .i64 t43, .int .u8 t44, .int .u8 t45, .int .u16 t46, .int .i64 t47, .int .i64 t48], dfr b38] → RegI F132 7 [.c 8, .c 11, .blk 1, .lp 2, .blk 0] 8 [(0, .func (.yield b27) #[] #[]), (1, .pointer (some ⟨b34, 0, none⟩)), (3, .pointer (some ⟨b51, 0, none⟩)), (17, .bool t94)] w96 R := by
   intro t92 t93 t94 A90 c91 w96 h h95
   rw [hJ98] at h
   clear hJ98
   dsimp only at h
   refine RegI.d ?_
   rcases of_cond h with ⟨hc100, h⟩ | ⟨hc100, h⟩
   ·skip
    refine RunsI.f 17 true hc100 ?_
    refine RunsI.b true 9 ?_
    refine RunsI.t (.tuple #[]) ?_
    exact hk0 t92 t93 t37 A90 c91 A35 c36 w96 (Option.some.inj h).symm (h95.pick [1, 2, 3, 0, 4, 5, 7] (by decide))
   ·skip
    refine RunsI.f 17 false hc100 ?_
    refine RunsI.b false 10 ?_
    refine RunsI.g 1 [.c 11, .blk 1, .lp 2, .blk 0] ?_
    refine RunsI.r ?_
    refine RegI.o (OpE.loadBox 18 4 23 b34 0 (.slice A35 t37.length c36) h95 (by kernel_rfl) (by kernel_rfl) rfl (by kernel_rfl) ?_)
    refine RegI.p 1 [(0, .func (.yield b27) #[] #[]), (1, .pointer (some ⟨b34, 0, none⟩)), (18, .slice A35 t37.length c36), (19, .pointer (some ⟨b51, 4, none⟩))] ?_
    refine RegI.o (OpE.loadBox 20 6 3 b51 4 (.int .i64 t47) h95 (by kernel_rfl) (by kernel_rfl) rfl (by kernel_rfl) ?_)
    obtain ⟨hc101, h⟩ := of_cond0 h
    refine RegI.o (OpE.cutSl 21 5 23 (some t47) none h95 (by kernel_rfl) rfl (by kernel_rfl) (by kernel_rfl) hc101 ?_)
    intro A102 c103 h104
    refine RegI.o (OpE.storeBox 4 23 b34 0 (.slice A102 ((cutL t37 t47 (t37.length : Int)).length) c103) [.slice A102 ((cutL t37 t47 (t37.length : Int)).length) c103] h104 (by kernel_rfl) (by kernel_rfl) rfl (by kernel_rfl) (by kernel_rfl) (by kernel_rfl) ?_)
    intro w105 h106 hk107
    refine RegI.d ?_
    refine RunsI.g 2 [.c 2, .lp 2, .blk 0] ?_
    refine RunsI.l [0, 1] [(0, .func (.yield b27) #[] #[]), (1, .pointer (some ⟨b34, 0, none⟩))] ?_
    exact ih t92 t93 (cutL t37 t47 (t37.length : Int)) A90 c91 A102 c103 w105 h (h106.pick [0, 1, 2, 3, 4, 8, 7] (by decide))
  clear hJ98
  rcases of_cond h with ⟨hc58, h⟩ | ⟨hc58, h⟩
  ·skip
   refine RegI.f 12 true hc58 ?_
   refine RegI.p 5 [(0, .func (.yield b27) #[] #[]), (1, .pointer (some ⟨b34, 0, none⟩)), (3, .pointer (some ⟨b51, 0, none⟩)), (17, .bool true)] ?_
   refine RegI.l [0, 1, 3, 17] [(0, .func (.yield b27) #[] #[]), (1, .pointer (some ⟨b34, 0, none⟩)), (3, .pointer (some ⟨b51, 0, none⟩)), (17, .bool true)] ?_
   exact hj99 t31 t33 true A29 c30 w55 h (h56.pick [0, 1, 2, 3, 4, 5, 7, 6] (by decide))
  ·skip
   refine RegI.f 12 false hc58 ?_
   refine RegI.p 1 [(0, .func (.yield b27) #[] #[]), (1, .pointer (some ⟨b34, 0, none⟩)), (3, .pointer (some ⟨b51, 0, none⟩)), (12, .bool false), (13, .func (.yield b27) #[] #[])] ?_
   refine RegI.o (OpE.loadBox 14 7 51 b51 0 (.agg #[.int .i64 t43, .int .u8 t44, .int .u8 t45, .int .u16 t46, .int .i64 t47, .int .i64 t48]) h56 (by kernel_rfl) (by kernel_rfl) rfl (by kernel_rfl) ?_)
   refine RegI.yield 15 b27 10 0 [.agg #[.int .i64 t43, .int .u8 t44, .int .u8 t45, .int .u16 t46, .int .i64 t47, .int .i64 t48]] [0, 1, 3, 12] [(0, .func (.yield b27) #[] #[]), (1, .pointer (some ⟨b34, 0, none⟩)), (3, .pointer (some ⟨b51, 0, none⟩)), (12, .bool false)] h56 (by kernel_rfl) (by kernel_rfl) (by kernel_rfl) (by kernel_rfl) rfl (by kernel_rfl) (by kernel_rfl) (by kernel_rfl) [.c 11, .bg, .c 12] (by kernel_rfl) [(11, .agg #[.int .i64 t43, .int .u8 t44, .int .u8 t45, .int .u16 t46, .int .i64 t47, .int .i64 t48]), (4, .pointer (some ⟨b28, 0, none⟩)), (5, .pointer (some ⟨b32, 0, none⟩)), (10, .func (.func 132) #[] #[.pointer (some ⟨b34, 0, none⟩)])] (by kernel_rfl) ?_
   refine RunsI.l [4, 5, 11] [(4, .pointer (some ⟨b28, 0, none⟩)), (5, .pointer (some ⟨b32, 0, none⟩)), (11, .agg #[.int .i64 t43, .int .u8 t44, .int .u8 t45, .int .u16 t46, .int .i64 t47, .int .i64 t48])] ?_
   refine RunsI.r ?_
   refine RegI.o (OpE.box 6 51 [.int .i64 0, .int .u8 0, .int .u8 0, .int .u16 0, .int .i64 0, .int .i64 0] h56 (by kernel_rfl) (by kernel_rfl) ?_)
   intro w59 b60 h61 hb62 hn63
   refine RegI.o (OpE.storeBox 8 51 b60 0 (.agg #[.int .i64 t43, .int .u8 t44, .int .u8 t45, .int .u16 t46, .int .i64 t47, .int .i64 t48]) [.int .i64 t43, .int .u8 t44, .int .u8 t45, .int .u16 t46, .int .i64 t47, .int .i64 t48] h61 (by kernel_rfl) (by kernel_rfl) rfl (by kernel_rfl) (by kernel_rfl) (by kernel_rfl) ?_)
   intro w64 h65 hk66
   refine RegI.d ?_
   refine RunsI.begin 0 h65 rfl rfl ?_
   intro w67 h68 hk69
   refine RunsI.g 2 [.c 14, .c 15, .blk 1] ?_
   refine RunsI.r ?_
   refine RegI.o (OpE.loadBox 12 1 116 b28 0 (.slice A29 t31.length c30) h68 (by kernel_rfl) (by kernel_rfl) rfl (by kernel_rfl) ?_)
   refine RegI.o (OpE.loadBox 13 8 51 b60 0 (.agg #[.int .i64 t43, .int .u8 t44, .int .u8 t45, .int .u16 t46, .int .i64 t47, .int .i64 t48]) h68 (by kernel_rfl) (by kernel_rfl) rfl (by kernel_rfl) ?_)
   refine RegI.o (OpE.lit 14 51 [.int .i64 t43, .int .u8 t44, .int .u8 t45, .int .u16 t46, .int .i64 t47, .int .i64 t48] 1 h68 (by kernel_rfl) (by kernel_rfl) ?_)
   intro w70 b71 h72 hb73 hn74
   obtain ⟨hc75, h⟩ := of_cond0 h
   refine RegI.o (OpE.appendBox 15 2 9 116 51 32 ([(t43, t44, t45, t46, t47, t48)] : List (Int × Int × Int × Int × Int × Int)) 0 h72 (by kernel_rfl) (by kernel_rfl) (by kernel_rfl) rfl rfl rfl (⟨[_, _, _, _, _, _], _, rfl, ⟨[_], [_, _, _, _, _], rfl, rfl, ⟨[_], [_, _, _, _], rfl, rfl, ⟨[_], [_, _, _], rfl, rfl, ⟨[_], [_, _], rfl, rfl, ⟨[_], [_], rfl, rfl, rfl⟩⟩⟩⟩⟩, rfl⟩) hc75 ?_)
   intro w76 A77 c78 h79 hk80
   refine RegI.o (OpE.storeBox 1 116 b28 0 (.slice A77 ((t31 ++ ([(t43, t44, t45, t46, t47, t48)] : List (Int × Int × Int × Int × Int × Int))).length) c78) [.slice A77 ((t31 ++ ([(t43, t44, t45, t46, t47, t48)] : List (Int × Int × Int × Int × Int × Int))).length) c78] h79 (by kernel_rfl) (by kernel_rfl) rfl (by kernel_rfl) (by kernel_rfl) (by kernel_rfl) ?_)
   intro w81 h82 hk83
   refine RegI.d ?_
   refine RunsI.r ?_
   refine RegI.o (OpE.loadBox 16 3 3 b32 0 (.int .i64 t33) h82 (by kernel_rfl) (by kernel_rfl) rfl (by kernel_rfl) ?_)
   refine RegI.p 1 [(5, .pointer (some ⟨b32, 0, none⟩)), (16, .int .i64 t33), (17, .pointer (some ⟨b60, 4, none⟩))] ?_
   refine RegI.o (OpE.loadBox 18 8 3 b60 4 (.int .i64 t47) h82 (by kernel_rfl) (by kernel_rfl) rfl (by kernel_rfl) ?_)
   refine RegI.p 1 [(5, .pointer (some ⟨b32, 0, none⟩)), (19, .int .i64 (IntKind.wrap .i64 (t33 - t47)))] ?_
   refine RegI.o (OpE.storeBox 3 3 b32 0 (.int .i64 (IntKind.wrap .i64 (t33 - t47))) [.int .i64 (IntKind.wrap .i64 (t33 - t47))] h82 (by kernel_rfl) (by kernel_rfl) rfl (by kernel_rfl) (by kernel_rfl) (by kernel_rfl) ?_)
   intro w84 h85 hk86
   refine RegI.d ?_
   refine RunsI.g 1 [] ?_
   refine RunsI.roundEnd 0 h85 rfl rfl ?_
   intro w87 h88 hk89
   refine cont_mk ?_
   refine RegI.p 2 [(0, .func (.yield b27) #[] #[]), (1, .pointer (some ⟨b34, 0, none⟩)), (3, .pointer (some ⟨b51, 0, none⟩)), (17, .bool false)] ?_
   refine RegI.l [0, 1, 3, 17] [(0, .func (.yield b27) #[] #[]), (1, .pointer (some ⟨b34, 0, none⟩)), (3, .pointer (some ⟨b51, 0, none⟩)), (17, .bool false)] ?_
   exact hj99 (t31 ++ ([(t43, t44, t45, t46, t47, t48)] : List (Int × Int × Int × Int × Int × Int))) (IntKind.wrap .i64 (t33 - t47)) false A77 c78 w87 h (h88.pick [0, 1, 2, 3, 4, 5, 7, 6] (by decide))
def decode_All_79.f (K : Nat) (p0 : List Int) : Option ((List (Int × Int × Int × Int × Int × Int)) × Int) := (decode_All_79.l0 K p0 K ([] : List (Int × Int × Int × Int × Int × Int)) (p0.length : Int) p0).bind (fun yx115 => some (yx115.1, yx115.2.1))
set_option maxRecDepth 100000 in
theorem decode_All_79_ok (K : Nat) (M0 : Nat → Prop) (w0 : World) (pA0 : Option Addr) (pc0 : Nat) (p0 : List Int) (ho : ∀ b, M0 b → b < w0.heap.size) (hs0 : Sl (Rp.int .u8) w0 M0 (.slice pA0 p0.length pc0) p0) {r : (List (Int × Int × Int × Int × Int × Int)) × Int} (h : decode_All_79.f K p0 = some r) :
  Calls Tryd.prog 79 #[.slice pA0 p0.length pc0] w0 (decode_All_79.post M0 w0 r) := by
 unfold decode_All_79.f at h
 have h0 : Holds M0 w0 w0 [] := Holds.start ho
 have h00 := h0.addSl (Rp.int .u8) (.slice pA0 p0.length pc0) p0 (hs0.mono (fun _ _ hm => hm.elim id (fun hm => absurd hm (by simp [mines, sl]))))
 have h0 : Holds M0 w0 w0 [sl (Rp.int .u8) (.slice pA0 p0.length pc0) p0] := h00
 refine calls_of F79 rfl [.slice pA0 p0.length pc0] (by kernel_rfl) ?_
 refine RunsI.g 1 [.c 1, .c 2] ?_
 refine RunsI.r ?_
 refine RegI.p 2 [(0, .slice pA0 p0.length pc0)] ?_
 refine RegI.d ?_
 refine RunsI.g 1 [.c 3, .c 4] ?_
 refine RunsI.r ?_
 refine RegI.o (OpE.box 4 116 [.slice none 0 0] h0 (by kernel_rfl) (by kernel_rfl) ?_)
 intro w1 b2 h3 hb4 hn5
 refine RegI.d ?_
 refine RunsI.g 1 [.c 5, .c 6] ?_
 refine RunsI.r ?_
 refine RegI.p 2 [(0, .slice pA0 p0.length pc0), (4, .pointer (some ⟨b2, 0, none⟩)), (8, .int .i64 (p0.length : Int))] ?_
 refine RegI.o (OpE.box 5 3 [.int .i64 0] h3 (by kernel_rfl) (by kernel_rfl) ?_)
 intro w6 b7 h8 hb9 hn10
 refine RegI.o (OpE.storeBox 2 3 b7 0 (.int .i64 (p0.length : Int)) [.int .i64 (p0.length : Int)] h8 (by kernel_rfl) (by kernel_rfl) rfl (by kernel_rfl) (by kernel_rfl) (by kernel_rfl) ?_)
 intro w11 h12 hk13
 refine RegI.d ?_
 refine RunsI.g 2 [.c 8, .c 9, .c 16] ?_
 refine RunsI.r ?_
 refine RegI.p 1 [(4, .pointer (some ⟨b2, 0, none⟩)), (5, .pointer (some ⟨b7, 0, none⟩)), (9, .slice pA0 p0.length pc0)] ?_
 refine RegI.enter 10 [4, 5] [(4, .pointer (some ⟨b2, 0, none⟩)), (5, .pointer (some ⟨b7, 0, none⟩))] (by kernel_rfl) (by kernel_rfl) (by kernel_rfl) (by kernel_rfl) F113 113 rfl [.slice pA0 p0.length pc0] (by kernel_rfl) (by kernel_rfl) ?_
 refine RunsI.g 1 [.c 1, .c 2] ?_
 refine RunsI.r ?_
 refine RegI.o (OpE.box 1 23 [.slice pA0 p0.length pc0] h12 (by kernel_rfl) (by kernel_rfl) ?_)
 intro w14 b15 h16 hb17 hn18
 refine RegI.p 1 [(1, .pointer (some ⟨b15, 0, none⟩))] ?_
 refine RegI.d ?_
 refine RunsI.g 1 [.c 3, .c 4] ?_
 refine RunsI.r ?_
 refine RegI.p 2 [(2, .func (.func 132) #[] #[.pointer (some ⟨b15, 0, none⟩)])] ?_
 refine RegI.d ?_
 refine RunsI.t (.func (.func 132) #[] #[.pointer (some ⟨b15, 0, none⟩)]) ?_
 refine cont_mk ?_
 refine RegI.d ?_
 refine RunsI.g 1 [.c 10, .blk 0, .c 16] ?_
 refine RunsI.rangeFunc (G := F132) [4, 5, 10] [(4, .pointer (some ⟨b2, 0, none⟩)), (5, .pointer (some ⟨b7, 0, none⟩)), (10, .func (.func 132) #[] #[.pointer (some ⟨b15, 0, none⟩)])] 132 [.pointer (some ⟨b15, 0, none⟩)] h16 (by kernel_rfl) (by kernel_rfl) (by kernel_rfl) (fun _ _ => by kernel_rfl) rfl rfl (by kernel_rfl) rfl rfl ?_
 intro b19 b20 w21 h22 hb23 hn24 hn25
 refine RunsI.g 2 [.c 2, .lp 2, .blk 0] ?_
 obtain ⟨x115, hx116, h⟩ := of_bind h
 have h26 := h22.addOwnNil (Rp.pair (Rp.int .i64) (Rp.pair (Rp.int .u8) (Rp.pair (Rp.int .u8) (Rp.pair (Rp.int .u16) (Rp.pair (Rp.int .i64) (Rp.int .i64)))))) 51
 refine RunsI.l [0, 1] [(0, .func (.yield b20) #[] #[]), (1, .pointer (some ⟨b15, 0, none⟩))] ?_
 refine decode_All_79.l0_ok K M0 w0 pA0 pc0 p0 b20 b2 b7 b15 b19 _ x115 ?_ K ([] : List (Int × Int × Int × Int × Int × Int)) (p0.length : Int) p0 none 0 pA0 pc0 w21 hx116 (h26.pick [5, 1, 6, 2, 3, 0, 4] (by decide))
 ·intro t119 t120 t123 A117 c118 A121 c122 w125 hq139 h124
  (try rw [hq139] at h)
  dsimp only at h
  refine contR_mk ?_
  refine RunsI.endLoop 3 h124 rfl rfl (by intro hh; cases hh) [.blk 0, .c 16] (by kernel_rfl) ?_
  intro w126 h127 hk128
  refine RunsI.g 2 [.c 17, .c 18] ?_
  refine RunsI.any 4 (by kernel_rfl) (by kernel_rfl) (by kernel_rfl) (Kp ([] : List Nat) (World.drew w126)) ?_
  have h130 := h127.drew
  generalize World.drew w126 = w129 at h130 ⊢
  have hS131 := Kp.refl ([] : List Nat) w129
  refine AnyE.loadBox 0 20 0 116 b2 0 (.slice A117 t119.length c118) [] h130 rfl (by kernel_rfl) hS131 rfl rfl (by kernel_rfl) (by kernel_rfl) ?_
  refine AnyE.loadBox 1 21 2 3 b7 0 (.int .i64 t120) [] h130 rfl (by kernel_rfl) hS131 rfl rfl (by kernel_rfl) (by kernel_rfl) ?_
  refine AnyE.pure 2 2 (.slice A117 t119.length c118) (by kernel_rfl) hS131 (fun _ => by kernel_rfl) ?_
  refine AnyE.pure 3 3 (.int .i64 t120) (by kernel_rfl) hS131 (fun _ => by kernel_rfl) ?_
  refine AnyE.done (by kernel_rfl) (fun w133 hu134 => ?_)
  have h135 := h130.call hu134
  refine RunsI.l [2, 3] [(2, .slice A117 t119.length c118), (3, .int .i64 t120)] ?_
  refine RunsI.toRet (by kernel_rfl) ?_
  refine RetI.takeH 6 b19 h135 rfl ?_
  intro w136 h137 hk138
  refine RetI.val (.tuple #[.slice A117 t119.length c118, .int .i64 t120]) (by kernel_rfl) ?_
  obtain rfl := Option.some.inj h
  exact ⟨A117, c118, rfl, h137.pick [1] (by decide)⟩
end

/-! ### charabanc/text.All (function 46) -/
section
def text_All_46.post (M0 : Nat → Prop) (w0 : World) (r : (List ByteArray)) : Ending → World → Prop := fun e w => ∃ (A1 : Option Addr) (c1 : Nat), e = .returned (.slice A1 r.length c1) ∧ Holds M0 w0 w [own Rp.str 9 (.slice A1 r.length c1) r]
def text_All_46.l0 (K : Nat) (p0 : List Int) (t17 : List (Int × Int × Int × Int × Int × Int)) (t18 : Int) : Nat → (List ByteArray) → Int → Option (List ByteArray)
 | 0, _, _ => none
 | k + 1, t14, t19 => cond (decide (t19 < t18)) (cond (inR t19 t17.length) ((text_Show_26.f K ((rdD t17 t19).1) ((rdD t17 t19).2.1) ((rdD t17 t19).2.2.1) ((rdD t17 t19).2.2.2.1) ((rdD t17 t19).2.2.2.2.1) ((rdD t17 t19).2.2.2.2.2)).bind fun t36 => cond (mayBe (t14.length + ([t36] : List ByteArray).length) 16) (text_All_46.l0 K p0 t17 t18 k (t14 ++ ([t36] : List ByteArray)) (IntKind.wrap .i64 (t19 + 1))) none) none) (some t14)
set_option maxRecDepth 100000 in
theorem text_All_46.l0_ok (K : Nat) (M0 : Nat → Prop) (w0 : World) (pA0 : Option Addr) (pc0 : Nat) (p0 : List Int) (t17 : List (Int × Int × Int × Int × Int × Int)) (t18 : Int) (A15 : Option Addr) (c16 : Nat) (R : Ending → World → Prop) (x : (List ByteArray)) (hk0 : ∀ (t50 : List ByteArray) (A48 : Option Addr) (c49 : Nat) (w1 : World), x = t50 → Holds M0 w0 w1 [own Rp.str 9 (.slice A48 t50.length c49) t50, gl 0 (tab_0.flatMap en_0), gl 1 (tab_1.flatMap en_1), gl 2 (tab_2.flatMap en_2), gl 3 (tab_3.flatMap en_3), gl 4 (tab_4.flatMap en_4), gl 5 (tab_5.flatMap en_5), gl 6 (tab_6.flatMap en_6), gl 7 (tab_7.flatMap en_7), gl 8 (tab_8.flatMap en_8), gl 9 (tab_9.flatMap en_9), gl 10 (tab_10.flatMap en_10), gl 12 (tab_12.flatMap en_12), gl 15 (tab_15.flatMap en_15), gl 16 (tab_16.flatMap en_16)] → RunsI F46 [.c 23] [(5, .slice A48 t50.length c49)] w1 R) :
  ∀ (k : Nat) (t14 : List ByteArray) (t19 : Int) (A12 : Option Addr) (c13 : Nat) (w : World), text_All_46.l0 K p0 t17 t18 k t14 t19 = some x → Holds M0 w0 w [own Rp.str 9 (.slice A12 t14.length c13) t14, own (Rp.pair (Rp.int .i64) (Rp.pair (Rp.int .u8) (Rp.pair (Rp.int .u8) (Rp.pair (Rp.int .u16) (Rp.pair (Rp.int .i64) (Rp.int .i64)))))) 51 (.slice A15 t17.length c16) t17, gl 0 (tab_0.flatMap en_0), gl 1 (tab_1.flatMap en_1), gl 2 (tab_2.flatMap en_2), gl 3 (tab_3.flatMap en_3), gl 4 (tab_4.flatMap en_4), gl 5 (tab_5.flatMap en_5), gl 6 (tab_6.flatMap en_6), gl 7 (tab_7.flatMap en_7), gl 8 (tab_8.flatMap en_8), gl 9 (tab_9.flatMap en_9), gl 10 (tab_10.flatMap en_10), gl 12 (tab_12.flatMap en_12), gl 15 (tab_15.flatMap en_15), gl 16 (tab_16.flatMap en_16)] → RunsI F46 [.c 11, .lp 11, .blk 0, .c 23] [(5, .slice A12 t14.length c13), (13, .slice A15 t17.length c16), (14, .int .i64 t18), (15, .int .i64 t19)] w R := by
 intro k
 induction k with
 | zero => intro t14 t19 A12 c13 w h hH; exact absurd h (by simp [text_All_46.l0])
 | succ k ih =>
  intro t14 t19 A12 c13 w h hH
  rw [text_All_46.l0.eq_2] at h
  refine RunsI.g 1 [.c 12, .c 13, .lp 11, .blk 0, .c 23] ?_
  refine RunsI.r ?_
  refine RegI.p 1 [(5, .slice A12 t14.length c13), (13, .slice A15 t17.length c16), (14, .int .i64 t18), (15, .int .i64 t19), (16, .bool (decide (t19 < t18)))] ?_
  refine RegI.d ?_
  refine RunsI.g 1 [.c 14, .c 17, .lp 11, .blk 0, .c 23] ?_
  rcases of_cond h with ⟨hc20, h⟩ | ⟨hc20, h⟩
  ·skip
   refine RunsI.f 16 true hc20 ?_
   refine RunsI.b true 15 ?_
   refine RunsI.g 1 [.c 17, .lp 11, .blk 0, .c 23] ?_
   refine RunsI.g 3 [.c 20, .c 21, .blk 1, .c 22, .lp 11, .blk 0, .c 23] ?_
   refine RunsI.r ?_
   obtain ⟨hc21, h⟩ := of_cond0 h
   refine RegI.o (OpE.idxOwnA 17 1 116 51 t19 hH (by kernel_rfl) rfl (by kernel_rfl) (by kernel_rfl) hc21 ?_)
   refine RegI.o (OpE.loadOwnA 18 1 51 51 t19 0 (o := (Int.toNat t19) * 6 + 0) hH (by kernel_rfl) rfl (by kernel_rfl) (by kernel_rfl) hc21 (fun cs22 hk23 => ?_))
   obtain ⟨_, _, rfl, rfl, ⟨_, _, rfl, rfl, ⟨_, _, rfl, rfl, ⟨_, _, rfl, rfl, ⟨_, _, rfl, rfl, rfl⟩⟩⟩⟩⟩ := hk23
   refine ⟨.agg #[.int .i64 ((rdD t17 t19).1), .int .u8 ((rdD t17 t19).2.1), .int .u8 ((rdD t17 t19).2.2.1), .int .u16 ((rdD t17 t19).2.2.2.1), .int .i64 ((rdD t17 t19).2.2.2.2.1), .int .i64 ((rdD t17 t19).2.2.2.2.2)], by kernel_rfl, ?_⟩
   refine RegI.o (OpE.box 7 51 [.int .i64 0, .int .u8 0, .int .u8 0, .int .u16 0, .int .i64 0, .int .i64 0] hH (by kernel_rfl) (by kernel_rfl) ?_)
   intro w24 b25 h26 hb27 hn28
   refine RegI.o (OpE.storeBox 16 51 b25 0 (.agg #[.int .i64 ((rdD t17 t19).1), .int .u8 ((rdD t17 t19).2.1), .int .u8 ((rdD t17 t19).2.2.1), .int .u16 ((rdD t17 t19).2.2.2.1), .int .i64 ((rdD t17 t19).2.2.2.2.1), .int .i64 ((rdD t17 t19).2.2.2.2.2)]) [.int .i64 ((rdD t17 t19).1), .int .u8 ((rdD t17 t19).2.1), .int .u8 ((rdD t17 t19).2.2.1), .int .u16 ((rdD t17 t19).2.2.2.1), .int .i64 ((rdD t17 t19).2.2.2.2.1), .int .i64 ((rdD t17 t19).2.2.2.2.2)] h26 (by kernel_rfl) (by kernel_rfl) rfl (by kernel_rfl) (by kernel_rfl) (by kernel_rfl) ?_)
   intro w29 h30 hk31
   refine RegI.d ?_
   refine RunsI.r ?_
   refine RegI.p 1 [(7, .pointer (some ⟨b25, 0, none⟩)), (13, .slice A15 t17.length c16), (14, .int .i64 t18), (15, .int .i64 t19), (19, .slice A12 t14.length c13)] ?_
   refine RegI.o (OpE.loadBox 20 16 51 b25 0 (.agg #[.int .i64 ((rdD t17 t19).1), .int .u8 ((rdD t17 t19).2.1), .int .u8 ((rdD t17 t19).2.2.1), .int .u16 ((rdD t17 t19).2.2.2.1), .int .i64 ((rdD t17 t19).2.2.2.2.1), .int .i64 ((rdD t17 t19).2.2.2.2.2)]) h30 (by kernel_rfl) (by kernel_rfl) rfl (by kernel_rfl) ?_)
   obtain ⟨t36, hg35, h⟩ := of_bind h
   refine RegI.o (OpE.call 21 (by kernel_rfl) 26 #[.agg #[.int .i64 ((rdD t17 t19).1), .int .u8 ((rdD t17 t19).2.1), .int .u8 ((rdD t17 t19).2.2.1), .int .u16 ((rdD t17 t19).2.2.2.1), .int .i64 ((rdD t17 t19).2.2.2.2.1), .int .i64 ((rdD t17 t19).2.2.2.2.2)]] (by kernel_rfl) ((text_Show_26_ok K _ w29  ((rdD t17 t19).1) ((rdD t17 t19).2.1) ((rdD t17 t19).2.2.1) ((rdD t17 t19).2.2.2.1) ((rdD t17 t19).2.2.2.2.1) ((rdD t17 t19).2.2.2.2.2) h30.old' (h30.get 2 rfl) (h30.get 3 rfl) (h30.get 4 rfl) (h30.get 5 rfl) (h30.get 6 rfl) (h30.get 7 rfl) (h30.get 8 rfl) (h30.get 9 rfl) (h30.get 10 rfl) (h30.get 11 rfl) (h30.get 12 rfl) (h30.get 13 rfl) (h30.get 14 rfl) (h30.get 15 rfl) hg35).mono ?_))
   rintro _ w32 ⟨rfl, hb33⟩
   refine ⟨_, rfl, ?_⟩
   have h34 := h30.call hb33
   refine RegI.o (OpE.lit 22 9 [.string t36] 1 h34 (by kernel_rfl) (by kernel_rfl) ?_)
   intro w37 b38 h39 hb40 hn41
   obtain ⟨hc42, h⟩ := of_cond0 h
   refine RegI.o (OpE.appendBox 23 0 17 55 9 16 ([t36] : List ByteArray) 0 h39 (by kernel_rfl) (by kernel_rfl) (by kernel_rfl) rfl rfl rfl (cells_str _ _ _) hc42 ?_)
   intro w43 A44 c45 h46 hk47
   refine RegI.p 1 [(5, .slice A44 ((t14 ++ ([t36] : List ByteArray)).length) c45), (13, .slice A15 t17.length c16), (14, .int .i64 t18), (15, .int .i64 t19)] ?_
   refine RegI.d ?_
   refine RunsI.g 1 [.c 22, .lp 11, .blk 0, .c 23] ?_
   refine RunsI.r ?_
   refine RegI.p 2 [(5, .slice A44 ((t14 ++ ([t36] : List ByteArray)).length) c45), (13, .slice A15 t17.length c16), (14, .int .i64 t18), (15, .int .i64 (IntKind.wrap .i64 (t19 + 1)))] ?_
   refine RegI.d ?_
   refine RunsI.g 1 [.c 11, .lp 11, .blk 0, .c 23] ?_
   refine RunsI.l [5, 13, 14, 15] [(5, .slice A44 ((t14 ++ ([t36] : List ByteArray)).length) c45), (13, .slice A15 t17.length c16), (14, .int .i64 t18), (15, .int .i64 (IntKind.wrap .i64 (t19 + 1)))] ?_
   exact ih (t14 ++ ([t36] : List ByteArray)) (IntKind.wrap .i64 (t19 + 1)) A44 c45 w43 h (h46.pick [0, 1, 2, 3, 4, 5, 6, 7, 8, 9, 10, 11, 12, 13, 14, 15] (by decide))
  ·skip
   refine RunsI.f 16 false hc20 ?_
   refine RunsI.b false 16 ?_
   refine RunsI.g 1 [.c 23] ?_
   refine RunsI.l [5] [(5, .slice A12 t14.length c13)] ?_
   exact hk0 t14 A12 c13 w (Option.some.inj h).symm (hH.pick [0, 2, 3, 4, 5, 6, 7, 8, 9, 10, 11, 12, 13, 14, 15] (by decide))
def text_All_46.f (K : Nat) (p0 : List Int) : Option (List ByteArray) := (decode_All_79.f K p0).bind fun yt5 => (text_All_46.l0 K p0 yt5.1 (yt5.1.length : Int) K ([] : List ByteArray) 0).bind (fun t55 => some t55)
set_option maxRecDepth 100000 in
theorem text_All_46_ok (K : Nat) (M0 : Nat → Prop) (w0 : World) (pA0 : Option Addr) (pc0 : Nat) (p0 : List Int) (ho : ∀ b, M0 b → b < w0.heap.size) (hs0 : Sl (Rp.int .u8) w0 M0 (.slice pA0 p0.length pc0) p0) (hG0 : (gl 0 (tab_0.flatMap en_0)).ok w0 M0) (hG1 : (gl 1 (tab_1.flatMap en_1)).ok w0 M0) (hG2 : (gl 2 (tab_2.flatMap en_2)).ok w0 M0) (hG3 : (gl 3 (tab_3.flatMap en_3)).ok w0 M0) (hG4 : (gl 4 (tab_4.flatMap en_4)).ok w0 M0) (hG5 : (gl 5 (tab_5.flatMap en_5)).ok w0 M0) (hG6 : (gl 6 (tab_6.flatMap en_6)).ok w0 M0) (hG7 : (gl 7 (tab_7.flatMap en_7)).ok w0 M0) (hG8 : (gl 8 (tab_8.flatMap en_8)).ok w0 M0) (hG9 : (gl 9 (tab_9.flatMap en_9)).ok w0 M0) (hG10 : (gl 10 (tab_10.flatMap en_10)).ok w0 M0) (hG12 : (gl 12 (tab_12.flatMap en_12)).ok w0 M0) (hG15 : (gl 15 (tab_15.flatMap en_15)).ok w0 M0) (hG16 : (gl 16 (tab_16.flatMap en_16)).ok w0 M0) {r : (List ByteArray)} (h : text_All_46.f K p0 = some r) :
  Calls Tryd.prog 46 #[.slice pA0 p0.length pc0] w0 (text_All_46.post M0 w0 r) := by
 unfold text_All_46.f at h
 have h0 : Holds M0 w0 w0 [] := Holds.start ho
 have h00 := h0.addSl (Rp.int .u8) (.slice pA0 p0.length pc0) p0 (hs0.mono (fun _ _ hm => hm.elim id (fun hm => absurd hm (by simp [mines, sl]))))
 have h0g0 := h00.add (gl 0 (tab_0.flatMap en_0)) rfl ⟨hG0.1, fun hm => hG0.2.1 (hm.elim id (fun hm => absurd hm (by simp [mines, sl, gl]))), hG0.2.2⟩
 have h0g1 := h0g0.add (gl 1 (tab_1.flatMap en_1)) rfl ⟨hG1.1, fun hm => hG1.2.1 (hm.elim id (fun hm => absurd hm (by simp [mines, sl, gl]))), hG1.2.2⟩
 have h0g2 := h0g1.add (gl 2 (tab_2.flatMap en_2)) rfl ⟨hG2.1, fun hm => hG2.2.1 (hm.elim id (fun hm => absurd hm (by simp [mines, sl, gl]))), hG2.2.2⟩
 have h0g3 := h0g2.add (gl 3 (tab_3.flatMap en_3)) rfl ⟨hG3.1, fun hm => hG3.2.1 (hm.elim id (fun hm => absurd hm (by simp [mines, sl, gl]))), hG3.2.2⟩
 have h0g4 := h0g3.add (gl 4 (tab_4.flatMap en_4)) rfl ⟨hG4.1, fun hm => hG4.2.1 (hm.elim id (fun hm => absurd hm (by simp [mines, sl, gl]))), hG4.2.2⟩
 have h0g5 := h0g4.add (gl 5 (tab_5.flatMap en_5)) rfl ⟨hG5.1, fun hm => hG5.2.1 (hm.elim id (fun hm => absurd hm (by simp [mines, sl, gl]))), hG5.2.2⟩
 have h0g6 := h0g5.add (gl 6 (tab_6.flatMap en_6)) rfl ⟨hG6.1, fun hm => hG6.2.1 (hm.elim id (fun hm => absurd hm (by simp [mines, sl, gl]))), hG6.2.2⟩
 have h0g7 := h0g6.add (gl 7 (tab_7.flatMap en_7)) rfl ⟨hG7.1, fun hm => hG7.2.1 (hm.elim id (fun hm => absurd hm (by simp [mines, sl, gl]))), hG7.2.2⟩
 have h0g8 := h0g7.add (gl 8 (tab_8.flatMap en_8)) rfl ⟨hG8.1, fun hm => hG8.2.1 (hm.elim id (fun hm => absurd hm (by simp [mines, sl, gl]))), hG8.2.2⟩
 have h0g9 := h0g8.add (gl 9 (tab_9.flatMap en_9)) rfl ⟨hG9.1, fun hm => hG9.2.1 (hm.elim id (fun hm => absurd hm (by simp [mines, sl, gl]))), hG9.2.2⟩
 have h0g10 := h0g9.add (gl 10 (tab_10.flatMap en_10)) rfl ⟨hG10.1, fun hm => hG10.2.1 (hm.elim id (fun hm => absurd hm (by simp [mines, sl, gl]))), hG10.2.2⟩
 have h0g12 := h0g10.add (gl 12 (tab_12.flatMap en_12)) rfl ⟨hG12.1, fun hm => hG12.2.1 (hm.elim id (fun hm => absurd hm (by simp [mines, sl, gl]))), hG12.2.2⟩
 have h0g15 := h0g12.add (gl 15 (tab_15.flatMap en_15)) rfl ⟨hG15.1, fun hm => hG15.2.1 (hm.elim id (fun hm => absurd hm (by simp [mines, sl, gl]))), hG15.2.2⟩
 have h0g16 := h0g15.add (gl 16 (tab_16.flatMap en_16)) rfl ⟨hG16.1, fun hm => hG16.2.1 (hm.elim id (fun hm => absurd hm (by simp [mines, sl, gl]))), hG16.2.2⟩
 have h0 : Holds M0 w0 w0 [sl (Rp.int .u8) (.slice pA0 p0.length pc0) p0, gl 0 (tab_0.flatMap en_0), gl 1 (tab_1.flatMap en_1), gl 2 (tab_2.flatMap en_2), gl 3 (tab_3.flatMap en_3), gl 4 (tab_4.flatMap en_4), gl 5 (tab_5.flatMap en_5), gl 6 (tab_6.flatMap en_6), gl 7 (tab_7.flatMap en_7), gl 8 (tab_8.flatMap en_8), gl 9 (tab_9.flatMap en_9), gl 10 (tab_10.flatMap en_10), gl 12 (tab_12.flatMap en_12), gl 15 (tab_15.flatMap en_15), gl 16 (tab_16.flatMap en_16)] := h0g16
 refine calls_of F46 rfl [.slice pA0 p0.length pc0] (by kernel_rfl) ?_
 refine RunsI.g 1 [.c 1, .c 2] ?_
 refine RunsI.r ?_
 refine RegI.p 1 [(0, .slice pA0 p0.length pc0)] ?_
 refine RegI.d ?_
 refine RunsI.g 1 [.c 3, .c 4] ?_
 refine RunsI.r ?_
 refine RegI.p 1 [(9, .slice pA0 p0.length pc0)] ?_
 obtain ⟨⟨t5, t9⟩, hg4, h⟩ := of_bind h
 dsimp only at h
 refine RegI.o (OpE.call 10 (by kernel_rfl) 79 #[.slice pA0 p0.length pc0] (by kernel_rfl) ((decode_All_79_ok K _ w0  pA0 pc0 p0 h0.old' (h0.get 0 rfl) hg4).mono ?_))
 rintro _ w1 ⟨A6, c7, rfl, hr10⟩
 refine ⟨_, rfl, ?_⟩
 have hb2 := hr10.below
 have h3 := h0.join hr10
 refine RegI.p 5 [(3, .slice A6 t5.length c7)] ?_
 refine RegI.d ?_
 refine RunsI.g 1 [.c 5, .c 6] ?_
 refine RunsI.r ?_
 refine RegI.p 1 [(3, .slice A6 t5.length c7), (5, .slice none 0 0)] ?_
 refine RegI.d ?_
 refine RunsI.g 2 [.c 8, .c 9, .c 23] ?_
 refine RunsI.r ?_
 refine RegI.p 3 [(5, .slice none 0 0), (13, .slice A6 t5.length c7), (14, .int .i64 (t5.length : Int)), (15, .int .i64 0)] ?_
 refine RegI.d ?_
 refine RunsI.g 2 [.c 11, .lp 11, .blk 0, .c 23] ?_
 obtain ⟨x51, hx52, h⟩ := of_bind h
 have h11 := h3.addOwnNil Rp.str 9
 refine RunsI.l [5, 13, 14, 15] [(5, .slice none (([] : List ByteArray).length) 0), (13, .slice A6 t5.length c7), (14, .int .i64 (t5.length : Int)), (15, .int .i64 0)] ?_
 refine text_All_46.l0_ok K M0 w0 pA0 pc0 p0 t5 (t5.length : Int) A6 c7 _ x51 ?_ K ([] : List ByteArray) 0 none 0 w1 hx52 (h11.pick [16, 15, 1, 2, 3, 4, 5, 6, 7, 8, 9, 10, 11, 12, 13, 14] (by decide))
 ·intro t55 A53 c54 w57 hq58 h56
  (try rw [hq58] at h)
  refine RunsI.g 1 [.c 24, .c 25] ?_
  refine RunsI.r ?_
  refine RegI.p 2 [(2, .slice A53 t55.length c54)] ?_
  refine RegI.d ?_
  refine RunsI.t (.slice A53 t55.length c54) ?_
  obtain rfl := Option.some.inj h
  exact ⟨A53, c54, rfl, h56.pick [0] (by decide)⟩
end

/-! ### charabanc/charabancref09.Same (function 47) -/
section
def charabancref09_Same_47.post (M0 : Nat → Prop) (w0 : World) (r : Bool) : Ending → World → Prop := fun e w => e = .returned (.bool r) ∧ Below w0.heap.size w0 w
def charabancref09_Same_47.l0 (K : Nat) (p0 : List ByteArray) (p1 : List ByteArray) : Nat → Int → Option (Lp Unit Unit)
 | 0, _ => none
 | k + 1, t2 => cond (decide (t2 < (p0.length : Int))) (cond (inR t2 p0.length) (cond (inR t2 p1.length) (cond (!((ByteArray.toList (rdD p0 t2)) == (ByteArray.toList (rdD p1 t2)))) (some (Lp.ret ())) (charabancref09_Same_47.l0 K p0 p1 k (IntKind.wrap .i64 (t2 + 1)))) none) none) (some (Lp.go ()))
set_option maxRecDepth 100000 in
theorem charabancref09_Same_47.l0_ok (K : Nat) (M0 : Nat → Prop) (w0 : World) (pA0 : Option Addr) (pc0 : Nat) (pA1 : Option Addr) (pc1 : Nat) (p0 : List ByteArray) (p1 : List ByteArray) (R : Ending → World → Prop) (x : Lp Unit Unit) (hk0 : ∀ (w1 : World), x = Lp.go () → Holds M0 w0 w1 [] → RunsI F47 [.c 31] [] w1 R) (hk1 : ∀ (w1 : World), x = Lp.ret () → Holds M0 w0 w1 [] → R (.returned (.bool false)) w1) :
  ∀ (k : Nat) (t2 : Int) (w : World), charabancref09_Same_47.l0 K p0 p1 k t2 = some x → Holds M0 w0 w [sl Rp.str (.slice pA0 p0.length pc0) p0, sl Rp.str (.slice pA1 p1.length pc1) p1] → RunsI F47 [.c 15, .lp 15, .blk 0, .c 31] [(0, .slice pA0 p0.length pc0), (1, .slice pA1 p1.length pc1), (5, .int .i64 t2)] w R := by
 intro k
 induction k with
 | zero => intro t2 w h hH; exact absurd h (by simp [charabancref09_Same_47.l0])
 | succ k ih =>
  intro t2 w h hH
  rw [charabancref09_Same_47.l0.eq_2] at h
  refine RunsI.g 1 [.c 16, .c 21, .lp 15, .blk 0, .c 31] ?_
  refine RunsI.g 1 [.c 17, .c 18, .c 21, .lp 15, .blk 0, .c 31] ?_
  refine RunsI.r ?_
  refine RegI.p 4 [(0, .slice pA0 p0.length pc0), (1, .slice pA1 p1.length pc1), (5, .int .i64 t2), (14, .bool (decide (t2 < (p0.length : Int))))] ?_
  refine RegI.d ?_
  rcases of_cond h with ⟨hc3, h⟩ | ⟨hc3, h⟩
  ·skip
   refine RunsI.f 14 true hc3 ?_
   refine RunsI.b true 19 ?_
   refine RunsI.g 1 [.c 21, .lp 15, .blk 0, .c 31] ?_
   refine RunsI.g 3 [.c 24, .c 25, .blk 1, .c 30, .lp 15, .blk 0, .c 31] ?_
   refine RunsI.any 9 (by kernel_rfl) (by kernel_rfl) (by kernel_rfl) (Kp ([] : List Nat) (World.drew w)) ?_
   have h5 := hH.drew
   generalize World.drew w = w4 at h5 ⊢
   have hS6 := Kp.refl ([] : List Nat) w4
   refine AnyE.pure 0 17 (.slice pA0 p0.length pc0) (by kernel_rfl) hS6 (fun _ => by kernel_rfl) ?_
   refine AnyE.pure 1 18 (.int .i64 t2) (by kernel_rfl) hS6 (fun _ => by kernel_rfl) ?_
   obtain ⟨hc8, h⟩ := of_cond0 h
   refine AnyE.idxSl 2 19 0 55 t2 h5 (by kernel_rfl) hS6 rfl (by kernel_rfl) (by kernel_rfl) hc8 ?_
   intro b9 o10 cs11 hk12 h13
   obtain rfl := hk12
   refine AnyE.loadCel 3 20 2 9 b9 o10 0 (.string (rdD p0 t2)) [] h13 rfl (by kernel_rfl) hS6 rfl rfl (by kernel_rfl) (by kernel_rfl) ?_
   refine AnyE.pure 4 21 (.slice pA1 p1.length pc1) (by kernel_rfl) hS6 (fun _ => by kernel_rfl) ?_
   refine AnyE.pure 5 22 (.int .i64 t2) (by kernel_rfl) hS6 (fun _ => by kernel_rfl) ?_
   obtain ⟨hc14, h⟩ := of_cond0 h
   refine AnyE.idxSl 6 23 1 55 t2 h13 (by kernel_rfl) hS6 rfl (by kernel_rfl) (by kernel_rfl) hc14 ?_
   intro b15 o16 cs17 hk18 h19
   obtain rfl := hk18
   refine AnyE.loadCel 7 24 3 9 b15 o16 0 (.string (rdD p1 t2)) [] h19 rfl (by kernel_rfl) hS6 rfl rfl (by kernel_rfl) (by kernel_rfl) ?_
   refine AnyE.pure 8 25 (.bool (!((ByteArray.toList (rdD p0 t2)) == (ByteArray.toList (rdD p1 t2))))) (by kernel_rfl) hS6 (fun _ => by kernel_rfl) ?_
   refine AnyE.done (by kernel_rfl) (fun w20 hu21 => ?_)
   have h22 := h19.call hu21
   refine RunsI.l [0, 1, 5, 25] [(0, .slice pA0 p0.length pc0), (1, .slice pA1 p1.length pc1), (5, .int .i64 t2), (25, .bool (!((ByteArray.toList (rdD p0 t2)) == (ByteArray.toList (rdD p1 t2)))))] ?_
   rcases of_cond h with ⟨hc23, h⟩ | ⟨hc23, h⟩
   ·skip
    refine RunsI.f 25 true hc23 ?_
    refine RunsI.b true 26 ?_
    refine RunsI.g 1 [.c 27, .c 28, .blk 1, .c 30, .lp 15, .blk 0, .c 31] ?_
    refine RunsI.r ?_
    refine RegI.p 1 [(4, .bool false)] ?_
    refine RegI.d ?_
    refine RunsI.t (.bool false) ?_
    exact hk1 w20 (Option.some.inj h).symm (h22.pick [] (by decide))
   ·skip
    refine RunsI.f 25 false hc23 ?_
    refine RunsI.b false 29 ?_
    refine RunsI.g 1 [.blk 1, .c 30, .lp 15, .blk 0, .c 31] ?_
    refine RunsI.g 1 [.c 30, .lp 15, .blk 0, .c 31] ?_
    refine RunsI.r ?_
    refine RegI.p 3 [(0, .slice pA0 p0.length pc0), (1, .slice pA1 p1.length pc1), (5, .int .i64 (IntKind.wrap .i64 (t2 + 1)))] ?_
    refine RegI.d ?_
    refine RunsI.g 1 [.c 15, .lp 15, .blk 0, .c 31] ?_
    refine RunsI.l [0, 1, 5] [(0, .slice pA0 p0.length pc0), (1, .slice pA1 p1.length pc1), (5, .int .i64 (IntKind.wrap .i64 (t2 + 1)))] ?_
    exact ih (IntKind.wrap .i64 (t2 + 1)) w20 h (h22.pick [0, 1] (by decide))
  ·skip
   refine RunsI.f 14 false hc3 ?_
   refine RunsI.b false 20 ?_
   refine RunsI.g 1 [.c 31] ?_
   refine RunsI.l [] [] ?_
   exact hk0 w (Option.some.inj h).symm (hH.pick [] (by decide))
def charabancref09_Same_47.f (K : Nat) (p0 : List ByteArray) (p1 : List ByteArray) : Option Bool := cond ((p0.length : Int) != (p1.length : Int)) (some false) ((charabancref09_Same_47.l0 K p0 p1 K 0).bind (fun x24 => Lp.elim x24 (fun _ => some false) (fun _ => some true)))
set_option maxRecDepth 100000 in
theorem charabancref09_Same_47_ok (K : Nat) (M0 : Nat → Prop) (w0 : World) (pA0 : Option Addr) (pc0 : Nat) (pA1 : Option Addr) (pc1 : Nat) (p0 : List ByteArray) (p1 : List ByteArray) (ho : ∀ b, M0 b → b < w0.heap.size) (hs0 : Sl Rp.str w0 M0 (.slice pA0 p0.length pc0) p0) (hs1 : Sl Rp.str w0 M0 (.slice pA1 p1.length pc1) p1) {r : Bool} (h : charabancref09_Same_47.f K p0 p1 = some r) :
  Calls Tryd.prog 47 #[.slice pA0 p0.length pc0, .slice pA1 p1.length pc1] w0 (charabancref09_Same_47.post M0 w0 r) := by
 unfold charabancref09_Same_47.f at h
 have h0 : Holds M0 w0 w0 [] := Holds.start ho
 have h00 := h0.addSl Rp.str (.slice pA0 p0.length pc0) p0 (hs0.mono (fun _ _ hm => hm.elim id (fun hm => absurd hm (by simp [mines, sl]))))
 have h01 := h00.addSl Rp.str (.slice pA1 p1.length pc1) p1 (hs1.mono (fun _ _ hm => hm.elim id (fun hm => absurd hm (by simp [mines, sl]))))
 have h0 : Holds M0 w0 w0 [sl Rp.str (.slice pA0 p0.length pc0) p0, sl Rp.str (.slice pA1 p1.length pc1) p1] := h01
 refine calls_of F47 rfl [.slice pA0 p0.length pc0, .slice pA1 p1.length pc1] (by kernel_rfl) ?_
 refine RunsI.g 1 [.c 1, .c 2] ?_
 refine RunsI.r ?_
 refine RegI.p 1 [(0, .slice pA0 p0.length pc0), (1, .slice pA1 p1.length pc1)] ?_
 refine RegI.d ?_
 refine RunsI.g 2 [.c 4, .c 5, .c 10] ?_
 refine RunsI.r ?_
 refine RegI.p 5 [(0, .slice pA0 p0.length pc0), (1, .slice pA1 p1.length pc1), (10, .bool ((p0.length : Int) != (p1.length : Int)))] ?_
 refine RegI.d ?_
 rcases of_cond h with ⟨hc1, h⟩ | ⟨hc1, h⟩
 ·skip
  refine RunsI.f 10 true hc1 ?_
  refine RunsI.b true 6 ?_
  refine RunsI.g 1 [.c 7, .c 8, .c 10] ?_
  refine RunsI.r ?_
  refine RegI.p 1 [(4, .bool false)] ?_
  refine RegI.d ?_
  refine RunsI.t (.bool false) ?_
  obtain rfl := Option.some.inj h
  exact ⟨rfl, h0.below⟩
 ·skip
  refine RunsI.f 10 false hc1 ?_
  refine RunsI.b false 9 ?_
  refine RunsI.g 1 [.c 10] ?_
  refine RunsI.g 2 [.c 12, .c 13, .c 31] ?_
  refine RunsI.r ?_
  refine RegI.p 1 [(0, .slice pA0 p0.length pc0), (1, .slice pA1 p1.length pc1), (5, .int .i64 0)] ?_
  refine RegI.d ?_
  refine RunsI.g 2 [.c 15, .lp 15, .blk 0, .c 31] ?_
  obtain ⟨x24, hx25, h⟩ := of_bind h
  refine RunsI.l [0, 1, 5] [(0, .slice pA0 p0.length pc0), (1, .slice pA1 p1.length pc1), (5, .int .i64 0)] ?_
  refine charabancref09_Same_47.l0_ok K M0 w0 pA0 pc0 pA1 pc1 p0 p1 _ x24 ?_ ?_ K 0 w0 hx25 (h0.pick [0, 1] (by decide))
  ·intro w27 hq30 h26
   (try rw [hq30] at h)
   dsimp only [Lp.elim] at h
   refine RunsI.g 1 [.c 32, .c 33] ?_
   refine RunsI.r ?_
   refine RegI.p 1 [(4, .bool true)] ?_
   refine RegI.d ?_
   refine RunsI.t (.bool true) ?_
   obtain rfl := Option.some.inj h
   exact ⟨rfl, h26.below⟩
  ·intro w29 hq31 h28
   (try rw [hq31] at h)
   dsimp only [Lp.elim] at h
   obtain rfl := Option.some.inj h
   exact ⟨rfl, h28.below⟩
end

/-! ### charabanc/charabanclaw09.awake (function 25) -/
section
def charabanclaw09_awake_25.post (M0 : Nat → Prop) (w0 : World) (r : Bool) : Ending → World → Prop := fun e w => e = .returned (.bool r) ∧ Below w0.heap.size w0 w
def charabanclaw09_awake_25.f (K : Nat) : Option Bool := (text_All_46.f K ([221, 54, 5, 7, 24, 254, 237, 176, 221, 203, 5, 192] : List Int)).bind fun t12 => (charabancref09_Same_47.f K t12 ([(⟨#[108, 100, 32, 40, 105, 120, 43, 53, 41, 44, 48, 55, 104]⟩ : ByteArray), (⟨#[106, 114, 32, 36, 43, 48]⟩ : ByteArray), (⟨#[108, 100, 105, 114]⟩ : ByteArray), (⟨#[115, 101, 116, 32, 48, 44, 40, 105, 120, 43, 53, 41, 44, 98]⟩ : ByteArray)] : List ByteArray)).bind fun t28 => cond t28 ((text_Show_26.f K 0 0 0 0 0 0).bind fun t34 => cond ((ByteArray.toList t34) == (ByteArray.toList (⟨#[110, 111, 112]⟩ : ByteArray))) ((text_Hex_48.f K 255 4).bind fun t40 => cond ((ByteArray.toList t40) == (ByteArray.toList (⟨#[48, 48, 102, 102, 104]⟩ : ByteArray))) ((text_Index_49.f K 4 255).bind fun t46 => some ((ByteArray.toList t46) == (ByteArray.toList (⟨#[40, 105, 121, 45, 49, 41]⟩ : ByteArray)))) (some false)) (some false)) (some false)
set_option maxRecDepth 100000 in
theorem charabanclaw09_awake_25_ok (K : Nat) (M0 : Nat → Prop) (w0 : World) (ho : ∀ b, M0 b → b < w0.heap.size) (hG0 : (gl 0 (tab_0.flatMap en_0)).ok w0 M0) (hG1 : (gl 1 (tab_1.flatMap en_1)).ok w0 M0) (hG2 : (gl 2 (tab_2.flatMap en_2)).ok w0 M0) (hG3 : (gl 3 (tab_3.flatMap en_3)).ok w0 M0) (hG4 : (gl 4 (tab_4.flatMap en_4)).ok w0 M0) (hG5 : (gl 5 (tab_5.flatMap en_5)).ok w0 M0) (hG6 : (gl 6 (tab_6.flatMap en_6)).ok w0 M0) (hG7 : (gl 7 (tab_7.flatMap en_7)).ok w0 M0) (hG8 : (gl 8 (tab_8.flatMap en_8)).ok w0 M0) (hG9 : (gl 9 (tab_9.flatMap en_9)).ok w0 M0) (hG10 : (gl 10 (tab_10.flatMap en_10)).ok w0 M0) (hG12 : (gl 12 (tab_12.flatMap en_12)).ok w0 M0) (hG15 : (gl 15 (tab_15.flatMap en_15)).ok w0 M0) (hG16 : (gl 16 (tab_16.flatMap en_16)).ok w0 M0) {r : Bool} (h : charabanclaw09_awake_25.f K = some r) :
  Calls Tryd.prog 25 #[] w0 (charabanclaw09_awake_25.post M0 w0 r) := by
 unfold charabanclaw09_awake_25.f at h
 have h0 : Holds M0 w0 w0 [] := Holds.start ho
 have h0g0 := h0.add (gl 0 (tab_0.flatMap en_0)) rfl ⟨hG0.1, fun hm => hG0.2.1 (hm.elim id (fun hm => absurd hm (by simp [mines, sl, gl]))), hG0.2.2⟩
 have h0g1 := h0g0.add (gl 1 (tab_1.flatMap en_1)) rfl ⟨hG1.1, fun hm => hG1.2.1 (hm.elim id (fun hm => absurd hm (by simp [mines, sl, gl]))), hG1.2.2⟩
 have h0g2 := h0g1.add (gl 2 (tab_2.flatMap en_2)) rfl ⟨hG2.1, fun hm => hG2.2.1 (hm.elim id (fun hm => absurd hm (by simp [mines, sl, gl]))), hG2.2.2⟩
 have h0g3 := h0g2.add (gl 3 (tab_3.flatMap en_3)) rfl ⟨hG3.1, fun hm => hG3.2.1 (hm.elim id (fun hm => absurd hm (by simp [mines, sl, gl]))), hG3.2.2⟩
 have h0g4 := h0g3.add (gl 4 (tab_4.flatMap en_4)) rfl ⟨hG4.1, fun hm => hG4.2.1 (hm.elim id (fun hm => absurd hm (by simp [mines, sl, gl]))), hG4.2.2⟩
 have h0g5 := h0g4.add (gl 5 (tab_5.flatMap en_5)) rfl ⟨hG5.1, fun hm => hG5.2.1 (hm.elim id (fun hm => absurd hm (by simp [mines, sl, gl]))), hG5.2.2⟩
 have h0g6 := h0g5.add (gl 6 (tab_6.flatMap en_6)) rfl ⟨hG6.1, fun hm => hG6.2.1 (hm.elim id (fun hm => absurd hm (by simp [mines, sl, gl]))), hG6.2.2⟩
 have h0g7 := h0g6.add (gl 7 (tab_7.flatMap en_7)) rfl ⟨hG7.1, fun hm => hG7.2.1 (hm.elim id (fun hm => absurd hm (by simp [mines, sl, gl]))), hG7.2.2⟩
 have h0g8 := h0g7.add (gl 8 (tab_8.flatMap en_8)) rfl ⟨hG8.1, fun hm => hG8.2.1 (hm.elim id (fun hm => absurd hm (by simp [mines, sl, gl]))), hG8.2.2⟩
 have h0g9 := h0g8.add (gl 9 (tab_9.flatMap en_9)) rfl ⟨hG9.1, fun hm => hG9.2.1 (hm.elim id (fun hm => absurd hm (by simp [mines, sl, gl]))), hG9.2.2⟩
 have h0g10 := h0g9.add (gl 10 (tab_10.flatMap en_10)) rfl ⟨hG10.1, fun hm => hG10.2.1 (hm.elim id (fun hm => absurd hm (by simp [mines, sl, gl]))), hG10.2.2⟩
 have h0g12 := h0g10.add (gl 12 (tab_12.flatMap en_12)) rfl ⟨hG12.1, fun hm => hG12.2.1 (hm.elim id (fun hm => absurd hm (by simp [mines, sl, gl]))), hG12.2.2⟩
 have h0g15 := h0g12.add (gl 15 (tab_15.flatMap en_15)) rfl ⟨hG15.1, fun hm => hG15.2.1 (hm.elim id (fun hm => absurd hm (by simp [mines, sl, gl]))), hG15.2.2⟩
 have h0g16 := h0g15.add (gl 16 (tab_16.flatMap en_16)) rfl ⟨hG16.1, fun hm => hG16.2.1 (hm.elim id (fun hm => absurd hm (by simp [mines, sl, gl]))), hG16.2.2⟩
 have h0 : Holds M0 w0 w0 [gl 0 (tab_0.flatMap en_0), gl 1 (tab_1.flatMap en_1), gl 2 (tab_2.flatMap en_2), gl 3 (tab_3.flatMap en_3), gl 4 (tab_4.flatMap en_4), gl 5 (tab_5.flatMap en_5), gl 6 (tab_6.flatMap en_6), gl 7 (tab_7.flatMap en_7), gl 8 (tab_8.flatMap en_8), gl 9 (tab_9.flatMap en_9), gl 10 (tab_10.flatMap en_10), gl 12 (tab_12.flatMap en_12), gl 15 (tab_15.flatMap en_15), gl 16 (tab_16.flatMap en_16)] := h0g16
 refine calls_of F25 rfl [] (by kernel_rfl) ?_
 refine RunsI.g 1 [.c 1, .c 2] ?_
 refine RunsI.r ?_
 refine RegI.p 1 [] ?_
 refine RegI.d ?_
 refine RunsI.g 1 [.c 3, .c 4] ?_
 refine RunsI.r ?_
 refine RegI.o (OpE.lit 2 5 [.int .u8 221, .int .u8 54, .int .u8 5, .int .u8 7, .int .u8 24, .int .u8 254, .int .u8 237, .int .u8 176, .int .u8 221, .int .u8 203, .int .u8 5, .int .u8 192] 12 h0 (by kernel_rfl) (by kernel_rfl) ?_)
 intro w1 b2 h3 hb4 hn5
 obtain ⟨t12, hg11, h⟩ := of_bind h
 have h6 := h3.boxOwn 14 rfl (Rp.int .u8) ([221, 54, 5, 7, 24, 254, 237, 176, 221, 203, 5, 192] : List Int) (cells_int _ _ _ _) (Nat.le_of_ble_eq_true (by kernel_rfl))
 have h7 := h6.release 14 rfl
 refine RegI.o (OpE.call 3 (by kernel_rfl) 46 #[.slice (some ⟨b2, 0, none⟩) (([221, 54, 5, 7, 24, 254, 237, 176, 221, 203, 5, 192] : List Int).length) 12] (by kernel_rfl) ((text_All_46_ok K _ w1  (some ⟨b2, 0, none⟩) 12 ([221, 54, 5, 7, 24, 254, 237, 176, 221, 203, 5, 192] : List Int) h7.old' (h7.get 14 rfl) (h7.get 0 rfl) (h7.get 1 rfl) (h7.get 2 rfl) (h7.get 3 rfl) (h7.get 4 rfl) (h7.get 5 rfl) (h7.get 6 rfl) (h7.get 7 rfl) (h7.get 8 rfl) (h7.get 9 rfl) (h7.get 10 rfl) (h7.get 11 rfl) (h7.get 12 rfl) (h7.get 13 rfl) hg11).mono ?_))
 rintro _ w8 ⟨A13, c14, rfl, hr16⟩
 refine ⟨_, rfl, ?_⟩
 have hb9 := hr16.below
 have h10 := h7.join hr16
 refine RegI.p 1 [(1, .slice A13 t12.length c14)] ?_
 refine RegI.d ?_
 refine RunsI.g 1 [.c 5, .c 6] ?_
 refine RunsI.r ?_
 refine RegI.p 1 [(4, .slice A13 t12.length c14)] ?_
 refine RegI.o (OpE.lit 5 9 [.string (⟨#[108, 100, 32, 40, 105, 120, 43, 53, 41, 44, 48, 55, 104]⟩ : ByteArray), .string (⟨#[106, 114, 32, 36, 43, 48]⟩ : ByteArray), .string (⟨#[108, 100, 105, 114]⟩ : ByteArray), .string (⟨#[115, 101, 116, 32, 48, 44, 40, 105, 120, 43, 53, 41, 44, 98]⟩ : ByteArray)] 4 h10 (by kernel_rfl) (by kernel_rfl) ?_)
 intro w17 b18 h19 hb20 hn21
 obtain ⟨t28, hg27, h⟩ := of_bind h
 have h22 := h19.boxOwn 16 rfl Rp.str ([(⟨#[108, 100, 32, 40, 105, 120, 43, 53, 41, 44, 48, 55, 104]⟩ : ByteArray), (⟨#[106, 114, 32, 36, 43, 48]⟩ : ByteArray), (⟨#[108, 100, 105, 114]⟩ : ByteArray), (⟨#[115, 101, 116, 32, 48, 44, 40, 105, 120, 43, 53, 41, 44, 98]⟩ : ByteArray)] : List ByteArray) (cells_str _ _ _) (Nat.le_of_ble_eq_true (by kernel_rfl))
 have h23 := h22.release 16 rfl
 refine RegI.o (OpE.call 6 (by kernel_rfl) 47 #[.slice A13 t12.length c14, .slice (some ⟨b18, 0, none⟩) (([(⟨#[108, 100, 32, 40, 105, 120, 43, 53, 41, 44, 48, 55, 104]⟩ : ByteArray), (⟨#[106, 114, 32, 36, 43, 48]⟩ : ByteArray), (⟨#[108, 100, 105, 114]⟩ : ByteArray), (⟨#[115, 101, 116, 32, 48, 44, 40, 105, 120, 43, 53, 41, 44, 98]⟩ : ByteArray)] : List ByteArray).length) 4] (by kernel_rfl) ((charabancref09_Same_47_ok K (fun _ => False) w17  A13 c14 (some ⟨b18, 0, none⟩) 4 t12 ([(⟨#[108, 100, 32, 40, 105, 120, 43, 53, 41, 44, 48, 55, 104]⟩ : ByteArray), (⟨#[106, 114, 32, 36, 43, 48]⟩ : ByteArray), (⟨#[108, 100, 105, 114]⟩ : ByteArray), (⟨#[115, 101, 116, 32, 48, 44, 40, 105, 120, 43, 53, 41, 44, 98]⟩ : ByteArray)] : List ByteArray) (fun _ hf => hf.elim) (h23.ownSl 15 rfl) (h23.slAny 16 rfl) hg27).mono ?_))
 rintro _ w24 ⟨rfl, hb25⟩
 refine ⟨_, rfl, ?_⟩
 have h26 := h23.call hb25
 refine RegI.p 1 [(7, .bool t28)] ?_
 rcases of_cond h with ⟨hc29, h⟩ | ⟨hc29, h⟩
 ·skip
  refine RegI.f 7 true hc29 ?_
  refine RegI.p 1 [(7, .bool true), (8, .agg #[.int .i64 0, .int .u8 0, .int .u8 0, .int .u16 0, .int .i64 0, .int .i64 0])] ?_
  obtain ⟨t34, hg33, h⟩ := of_bind h
  refine RegI.o (OpE.call 9 (by kernel_rfl) 26 #[.agg #[.int .i64 0, .int .u8 0, .int .u8 0, .int .u16 0, .int .i64 0, .int .i64 0]] (by kernel_rfl) ((text_Show_26_ok K _ w24  0 0 0 0 0 0 h26.old' (h26.get 0 rfl) (h26.get 1 rfl) (h26.get 2 rfl) (h26.get 3 rfl) (h26.get 4 rfl) (h26.get 5 rfl) (h26.get 6 rfl) (h26.get 7 rfl) (h26.get 8 rfl) (h26.get 9 rfl) (h26.get 10 rfl) (h26.get 11 rfl) (h26.get 12 rfl) (h26.get 13 rfl) hg33).mono ?_))
  rintro _ w30 ⟨rfl, hb31⟩
  refine ⟨_, rfl, ?_⟩
  have h32 := h26.call hb31
  refine RegI.p 3 [(12, .bool ((ByteArray.toList t34) == (ByteArray.toList (⟨#[110, 111, 112]⟩ : ByteArray))))] ?_
  rcases of_cond h with ⟨hc35, h⟩ | ⟨hc35, h⟩
  ·skip
   refine RegI.f 12 true hc35 ?_
   obtain ⟨t40, hg39, h⟩ := of_bind h
   refine RegI.o (OpE.call 13 (by kernel_rfl) 48 #[.int .i64 255, .int .i64 4] (by kernel_rfl) ((text_Hex_48_ok K _ w30  255 4 h32.old' (h32.get 11 rfl) (h32.get 12 rfl) (h32.get 13 rfl) hg39).mono ?_))
   rintro _ w36 ⟨rfl, hb37⟩
   refine ⟨_, rfl, ?_⟩
   have h38 := h32.call hb37
   refine RegI.p 3 [(16, .bool ((ByteArray.toList t40) == (ByteArray.toList (⟨#[48, 48, 102, 102, 104]⟩ : ByteArray))))] ?_
   rcases of_cond h with ⟨hc41, h⟩ | ⟨hc41, h⟩
   ·skip
    refine RegI.f 16 true hc41 ?_
    obtain ⟨t46, hg45, h⟩ := of_bind h
    refine RegI.o (OpE.call 17 (by kernel_rfl) 49 #[.int .i64 4, .int .u8 255] (by kernel_rfl) ((text_Index_49_ok K _ w36  4 255 h38.old' (h38.get 11 rfl) hg45).mono ?_))
    rintro _ w42 ⟨rfl, hb43⟩
    refine ⟨_, rfl, ?_⟩
    have h44 := h38.call hb43
    refine RegI.p 3 [(0, .bool ((ByteArray.toList t46) == (ByteArray.toList (⟨#[40, 105, 121, 45, 49, 41]⟩ : ByteArray))))] ?_
    refine RegI.d ?_
    refine RunsI.t (.bool ((ByteArray.toList t46) == (ByteArray.toList (⟨#[40, 105, 121, 45, 49, 41]⟩ : ByteArray)))) ?_
    obtain rfl := Option.some.inj h
    exact ⟨rfl, h44.below⟩
   ·skip
    refine RegI.f 16 false hc41 ?_
    refine RegI.p 4 [(0, .bool false)] ?_
    refine RegI.d ?_
    refine RunsI.t (.bool false) ?_
    obtain rfl := Option.some.inj h
    exact ⟨rfl, h38.below⟩
  ·skip
   refine RegI.f 12 false hc35 ?_
   refine RegI.p 8 [(0, .bool false)] ?_
   refine RegI.d ?_
   refine RunsI.t (.bool false) ?_
   obtain rfl := Option.some.inj h
   exact ⟨rfl, h32.below⟩
 ·skip
  refine RegI.f 7 false hc29 ?_
  refine RegI.p 13 [(0, .bool false)] ?_
  refine RegI.d ?_
  refine RunsI.t (.bool false) ?_
  obtain rfl := Option.some.inj h
  exact ⟨rfl, h26.below⟩
end

/-! ### charabanc/charabancref08.Fields (function 57) -/
section
def charabancref08_Fields_57.post (M0 : Nat → Prop) (w0 : World) (r : Int × Int × Int × Int × Int) : Ending → World → Prop := fun e w => e = .returned (.tuple #[.int .i64 r.1, .int .i64 r.2.1, .int .i64 r.2.2.1, .int .i64 r.2.2.2.1, .int .i64 r.2.2.2.2]) ∧ Below w0.heap.size w0 w
def charabancref08_Fields_57.f (K : Nat) (p0 : Int) : Option (Int × Int × Int × Int × Int) := some ((IntKind.wrap .i64 (Int.tdiv (IntKind.wrap .i64 p0) 64)), (Int.tmod (IntKind.wrap .i64 (Int.tdiv (IntKind.wrap .i64 p0) 8)) 8), (Int.tmod (IntKind.wrap .i64 p0) 8), (Int.tmod (IntKind.wrap .i64 (Int.tdiv (IntKind.wrap .i64 p0) 16)) 4), (Int.tmod (IntKind.wrap .i64 (Int.tdiv (IntKind.wrap .i64 p0) 8)) 2))
set_option maxRecDepth 100000 in
theorem charabancref08_Fields_57_ok (K : Nat) (M0 : Nat → Prop) (w0 : World) (p0 : Int) (ho : ∀ b, M0 b → b < w0.heap.size) {r : Int × Int × Int × Int × Int} (h : charabancref08_Fields_57.f K p0 = some r) :
  Calls Tryd.prog 57 #[.int .u8 p0] w0 (charabancref08_Fields_57.post M0 w0 r) := by
 unfold charabancref08_Fields_57.f at h
 have h0 : Holds M0 w0 w0 [] := Holds.start ho
 have h0 : Holds M0 w0 w0 [] := h0
 refine calls_of F57 rfl [.int .u8 p0] (by kernel_rfl) ?_
 refine RunsI.g 1 [.c 1, .c 2] ?_
 refine RunsI.r ?_
 refine RegI.p 5 [(0, .int .u8 p0)] ?_
 refine RegI.d ?_
 refine RunsI.g 1 [.c 3, .c 4] ?_
 refine RunsI.r ?_
 refine RegI.p 3 [(7, .int .i64 (IntKind.wrap .i64 p0))] ?_
 refine RegI.d ?_
 refine RunsI.g 1 [.c 5, .c 6] ?_
 refine RunsI.r ?_
 refine RegI.p 18 [(2, .int .i64 (IntKind.wrap .i64 (Int.tdiv (IntKind.wrap .i64 p0) 64))), (3, .int .i64 (Int.tmod (IntKind.wrap .i64 (Int.tdiv (IntKind.wrap .i64 p0) 8)) 8)), (4, .int .i64 (Int.tmod (IntKind.wrap .i64 p0) 8)), (5, .int .i64 (Int.tmod (IntKind.wrap .i64 (Int.tdiv (IntKind.wrap .i64 p0) 16)) 4)), (6, .int .i64 (Int.tmod (IntKind.wrap .i64 (Int.tdiv (IntKind.wrap .i64 p0) 8)) 2))] ?_
 refine RegI.d ?_
 refine RunsI.t (.tuple #[.int .i64 (IntKind.wrap .i64 (Int.tdiv (IntKind.wrap .i64 p0) 64)), .int .i64 (Int.tmod (IntKind.wrap .i64 (Int.tdiv (IntKind.wrap .i64 p0) 8)) 8), .int .i64 (Int.tmod (IntKind.wrap .i64 p0) 8), .int .i64 (Int.tmod (IntKind.wrap .i64 (Int.tdiv (IntKind.wrap .i64 p0) 16)) 4), .int .i64 (Int.tmod (IntKind.wrap .i64 (Int.tdiv (IntKind.wrap .i64 p0) 8)) 2)]) ?_
 obtain rfl := Option.some.inj h
 exact ⟨rfl, h0.below⟩
end

/-! ### charabanc/charabancref09.name (function 104) -/
section
def charabancref09_name_104.post (M0 : Nat → Prop) (w0 : World) (r : ByteArray) : Ending → World → Prop := fun e w => e = .returned (.string r) ∧ Below w0.heap.size w0 w
def charabancref09_name_104.f (K : Nat) (p0 : Int) : Option ByteArray := Let (fun (t2 : Bool) => cond t2 (some (⟨#[105, 120]⟩ : ByteArray)) (some (⟨#[105, 121]⟩ : ByteArray))) (fun j5 => cond (p0 == 3) (j5 true) (j5 (p0 == 5)))
set_option maxRecDepth 100000 in
theorem charabancref09_name_104_ok (K : Nat) (M0 : Nat → Prop) (w0 : World) (p0 : Int) (ho : ∀ b, M0 b → b < w0.heap.size) {r : ByteArray} (h : charabancref09_name_104.f K p0 = some r) :
  Calls Tryd.prog 104 #[.int .i64 p0] w0 (charabancref09_name_104.post M0 w0 r) := by
 unfold charabancref09_name_104.f at h
 have h0 : Holds M0 w0 w0 [] := Holds.start ho
 have h0 : Holds M0 w0 w0 [] := h0
 refine calls_of F104 rfl [.int .i64 p0] (by kernel_rfl) ?_
 refine RunsI.g 1 [.c 1, .c 2] ?_
 refine RunsI.r ?_
 refine RegI.p 1 [(0, .int .i64 p0)] ?_
 refine RegI.d ?_
 refine RunsI.g 2 [.c 4, .c 5, .c 10] ?_
 refine RunsI.r ?_
 refine RegI.p 3 [(0, .int .i64 p0), (5, .bool (p0 == 3))] ?_
 obtain ⟨j5, hJ6, h⟩ := of_let h
 have hj7 : ∀ (t2 : Bool) (w4 : World), j5 t2 = some r → Holds M0 w0 w4 [] → RegI F104 4 [.c 5, .c 10] 6 [(8, .bool t2)] w4 (charabancref09_name_104.post M0 w0 r) := by
  intro t2 w4 h h3
  rw [hJ6] at h
  clear hJ6
  dsimp only at h
  refine RegI.d ?_
  rcases of_cond h with ⟨hc8, h⟩ | ⟨hc8, h⟩
  ·skip
   refine RunsI.f 8 true hc8 ?_
   refine RunsI.b true 6 ?_
   refine RunsI.g 1 [.c 7, .c 8, .c 10] ?_
   refine RunsI.r ?_
   refine RegI.p 1 [(2, .string (⟨#[105, 120]⟩ : ByteArray))] ?_
   refine RegI.d ?_
   refine RunsI.t (.string (⟨#[105, 120]⟩ : ByteArray)) ?_
   obtain rfl := Option.some.inj h
   exact ⟨rfl, h3.below⟩
  ·skip
   refine RunsI.f 8 false hc8 ?_
   refine RunsI.b false 9 ?_
   refine RunsI.g 1 [.c 10] ?_
   refine RunsI.g 1 [.c 11, .c 12] ?_
   refine RunsI.r ?_
   refine RegI.p 1 [(2, .string (⟨#[105, 121]⟩ : ByteArray))] ?_
   refine RegI.d ?_
   refine RunsI.t (.string (⟨#[105, 121]⟩ : ByteArray)) ?_
   obtain rfl := Option.some.inj h
   exact ⟨rfl, h3.below⟩
 clear hJ6
 rcases of_cond h with ⟨hc1, h⟩ | ⟨hc1, h⟩
 ·skip
  refine RegI.f 5 true hc1 ?_
  refine RegI.p 3 [(8, .bool true)] ?_
  refine RegI.l [8] [(8, .bool true)] ?_
  exact hj7 true w0 h (h0.pick [] (by decide))
 ·skip
  refine RegI.f 5 false hc1 ?_
  refine RegI.p 3 [(8, .bool (p0 == 5))] ?_
  refine RegI.l [8] [(8, .bool (p0 == 5))] ?_
  exact hj7 (p0 == 5) w0 h (h0.pick [] (by decide))
end

/-! ### charabanc/charabancref09.digits (function 96) -/
section
def charabancref09_digits_96.post (M0 : Nat → Prop) (w0 : World) (r : ByteArray) : Ending → World → Prop := fun e w => e = .returned (.string r) ∧ Below w0.heap.size w0 w
def charabancref09_digits_96.l0 (K : Nat) (p0 : Int) (p1 : Int) (p2 : Int) : Nat → Int → ByteArray → Option ByteArray
 | 0, _, _ => none
 | k + 1, t1, t2 => Let (fun (t5 : Bool) => cond t5 (cond (p1 != 0) (cond (cutR (Int.tmod t1 p1) (IntKind.wrap .i64 ((Int.tmod t1 p1) + 1)) (⟨#[48, 49, 50, 51, 52, 53, 54, 55, 56, 57, 97, 98, 99, 100, 101, 102]⟩ : ByteArray).size) (cond (mayCat (strCut (⟨#[48, 49, 50, 51, 52, 53, 54, 55, 56, 57, 97, 98, 99, 100, 101, 102]⟩ : ByteArray) (Int.tmod t1 p1) (IntKind.wrap .i64 ((Int.tmod t1 p1) + 1))).size t2.size) (charabancref09_digits_96.l0 K p0 p1 p2 k (IntKind.wrap .i64 (Int.tdiv t1 p1)) ((strCut (⟨#[48, 49, 50, 51, 52, 53, 54, 55, 56, 57, 97, 98, 99, 100, 101, 102]⟩ : ByteArray) (Int.tmod t1 p1) (IntKind.wrap .i64 ((Int.tmod t1 p1) + 1))) ++ t2)) none) none) none) (some t2)) (fun j8 => cond (decide (t1 > 0)) (j8 true) (cond (decide ((t2.size : Int) < p2)) (j8 true) (j8 ((ByteArray.toList t2) == (ByteArray.toList (⟨#[]⟩ : ByteArray))))))
set_option maxRecDepth 100000 in
theorem charabancref09_digits_96.l0_ok (K : Nat) (M0 : Nat → Prop) (w0 : World) (p0 : Int) (p1 : Int) (p2 : Int) (R : Ending → World → Prop) (x : ByteArray) (hk0 : ∀ (t22 : ByteArray) (w1 : World), x = t22 → Holds M0 w0 w1 [] → RunsI F96 [.c 19] [(8, .string t22)] w1 R) :
  ∀ (k : Nat) (t1 : Int) (t2 : ByteArray) (w : World), charabancref09_digits_96.l0 K p0 p1 p2 k t1 t2 = some x → Holds M0 w0 w [] → RunsI F96 [.c 9, .lp 9, .blk 0, .c 19] [(0, .int .i64 t1), (1, .int .i64 p1), (2, .int .i64 p2), (7, .string (⟨#[48, 49, 50, 51, 52, 53, 54, 55, 56, 57, 97, 98, 99, 100, 101, 102]⟩ : ByteArray)), (8, .string t2)] w R := by
 intro k
 induction k with
 | zero => intro t1 t2 w h hH; exact absurd h (by simp [charabancref09_digits_96.l0])
 | succ k ih =>
  intro t1 t2 w h hH
  rw [charabancref09_digits_96.l0.eq_2] at h
  refine RunsI.g 1 [.c 10, .c 15, .lp 9, .blk 0, .c 19] ?_
  refine RunsI.g 1 [.c 11, .c 12, .c 15, .lp 9, .blk 0, .c 19] ?_
  refine RunsI.r ?_
  refine RegI.p 3 [(0, .int .i64 t1), (1, .int .i64 p1), (2, .int .i64 p2), (7, .string (⟨#[48, 49, 50, 51, 52, 53, 54, 55, 56, 57, 97, 98, 99, 100, 101, 102]⟩ : ByteArray)), (8, .string t2), (11, .bool (decide (t1 > 0)))] ?_
  obtain ⟨j8, hJ9, h⟩ := of_let h
  have hj10 : ∀ (t5 : Bool) (w7 : World), j8 t5 = some x → Holds M0 w0 w7 [] → RegI F96 11 [.c 12, .c 15, .lp 9, .blk 0, .c 19] 12 [(0, .int .i64 t1), (1, .int .i64 p1), (2, .int .i64 p2), (7, .string (⟨#[48, 49, 50, 51, 52, 53, 54, 55, 56, 57, 97, 98, 99, 100, 101, 102]⟩ : ByteArray)), (8, .string t2), (20, .bool t5)] w7 R := by
   intro t5 w7 h h6
   rw [hJ9] at h
   clear hJ9
   dsimp only at h
   refine RegI.d ?_
   rcases of_cond h with ⟨hc11, h⟩ | ⟨hc11, h⟩
   ·skip
    refine RunsI.f 20 true hc11 ?_
    refine RunsI.b true 13 ?_
    refine RunsI.g 1 [.c 15, .lp 9, .blk 0, .c 19] ?_
    refine RunsI.g 2 [.c 17, .c 18, .blk 1, .lp 9, .blk 0, .c 19] ?_
    refine RunsI.any 12 (by kernel_rfl) (by kernel_rfl) (by kernel_rfl) (Kp ([] : List Nat) (World.drew w7)) ?_
    have h13 := h6.drew
    generalize World.drew w7 = w12 at h13 ⊢
    have hS14 := Kp.refl ([] : List Nat) w12
    refine AnyE.pure 0 21 (.string (⟨#[48, 49, 50, 51, 52, 53, 54, 55, 56, 57, 97, 98, 99, 100, 101, 102]⟩ : ByteArray)) (by kernel_rfl) hS14 (fun _ => by kernel_rfl) ?_
    refine AnyE.pure 1 22 (.int .i64 t1) (by kernel_rfl) hS14 (fun _ => by kernel_rfl) ?_
    refine AnyE.pure 2 23 (.int .i64 p1) (by kernel_rfl) hS14 (fun _ => by kernel_rfl) ?_
    obtain ⟨hc16, h⟩ := of_cond0 h
    refine AnyE.run 3 24 (.int .i64 (Int.tmod t1 p1)) (by kernel_rfl) hS14 (fun _ hk => run_rem (k := .i64) (a := t1) (b := p1) (by kernel_rfl) hc16) ?_
    refine AnyE.pure 4 25 (.int .i64 t1) (by kernel_rfl) hS14 (fun _ => by kernel_rfl) ?_
    refine AnyE.pure 5 26 (.int .i64 p1) (by kernel_rfl) hS14 (fun _ => by kernel_rfl) ?_
    refine AnyE.run 6 27 (.int .i64 (Int.tmod t1 p1)) (by kernel_rfl) hS14 (fun _ hk => run_rem (k := .i64) (a := t1) (b := p1) (by kernel_rfl) hc16) ?_
    refine AnyE.pure 7 28 (.int .i64 (IntKind.wrap .i64 ((Int.tmod t1 p1) + 1))) (by kernel_rfl) hS14 (fun _ => by kernel_rfl) ?_
    obtain ⟨hc17, h⟩ := of_cond0 h
    refine AnyE.run 8 29 (.string (strCut (⟨#[48, 49, 50, 51, 52, 53, 54, 55, 56, 57, 97, 98, 99, 100, 101, 102]⟩ : ByteArray) (Int.tmod t1 p1) (IntKind.wrap .i64 ((Int.tmod t1 p1) + 1)))) (by kernel_rfl) hS14 (fun _ hk => run_strCut (T := 9) (s := (⟨#[48, 49, 50, 51, 52, 53, 54, 55, 56, 57, 97, 98, 99, 100, 101, 102]⟩ : ByteArray)) (lo := (some (Int.tmod t1 p1))) (hi := (some (IntKind.wrap .i64 ((Int.tmod t1 p1) + 1)))) (by kernel_rfl) (by kernel_rfl) hc17) ?_
    refine AnyE.pure 9 30 (.string t2) (by kernel_rfl) hS14 (fun _ => by kernel_rfl) ?_
    obtain ⟨hc18, h⟩ := of_cond0 h
    refine AnyE.run 10 31 (.string ((strCut (⟨#[48, 49, 50, 51, 52, 53, 54, 55, 56, 57, 97, 98, 99, 100, 101, 102]⟩ : ByteArray) (Int.tmod t1 p1) (IntKind.wrap .i64 ((Int.tmod t1 p1) + 1))) ++ t2)) (by kernel_rfl) hS14 (fun _ hk => run_cat (a := (strCut (⟨#[48, 49, 50, 51, 52, 53, 54, 55, 56, 57, 97, 98, 99, 100, 101, 102]⟩ : ByteArray) (Int.tmod t1 p1) (IntKind.wrap .i64 ((Int.tmod t1 p1) + 1)))) (b := t2) (by kernel_rfl) hc18) ?_
    refine AnyE.pure 11 8 (.string ((strCut (⟨#[48, 49, 50, 51, 52, 53, 54, 55, 56, 57, 97, 98, 99, 100, 101, 102]⟩ : ByteArray) (Int.tmod t1 p1) (IntKind.wrap .i64 ((Int.tmod t1 p1) + 1))) ++ t2)) (by kernel_rfl) hS14 (fun _ => by kernel_rfl) ?_
    refine AnyE.done (by kernel_rfl) (fun w19 hu20 => ?_)
    have h21 := h13.call hu20
    refine RunsI.l [0, 1, 2, 7, 8] [(0, .int .i64 t1), (1, .int .i64 p1), (2, .int .i64 p2), (7, .string (⟨#[48, 49, 50, 51, 52, 53, 54, 55, 56, 57, 97, 98, 99, 100, 101, 102]⟩ : ByteArray)), (8, .string ((strCut (⟨#[48, 49, 50, 51, 52, 53, 54, 55, 56, 57, 97, 98, 99, 100, 101, 102]⟩ : ByteArray) (Int.tmod t1 p1) (IntKind.wrap .i64 ((Int.tmod t1 p1) + 1))) ++ t2))] ?_
    refine RunsI.r ?_
    refine RegI.p 2 [(1, .int .i64 p1), (2, .int .i64 p2), (7, .string (⟨#[48, 49, 50, 51, 52, 53, 54, 55, 56, 57, 97, 98, 99, 100, 101, 102]⟩ : ByteArray)), (8, .string ((strCut (⟨#[48, 49, 50, 51, 52, 53, 54, 55, 56, 57, 97, 98, 99, 100, 101, 102]⟩ : ByteArray) (Int.tmod t1 p1) (IntKind.wrap .i64 ((Int.tmod t1 p1) + 1))) ++ t2)), (32, .int .i64 t1), (33, .int .i64 p1)] ?_
    refine RegI.o (OpE.run 34 (by kernel_rfl) (run_quo (k := .i64) (a := t1) (b := p1) (by kernel_rfl) hc16) ?_)
    refine RegI.p 1 [(0, .int .i64 (IntKind.wrap .i64 (Int.tdiv t1 p1))), (1, .int .i64 p1), (2, .int .i64 p2), (7, .string (⟨#[48, 49, 50, 51, 52, 53, 54, 55, 56, 57, 97, 98, 99, 100, 101, 102]⟩ : ByteArray)), (8, .string ((strCut (⟨#[48, 49, 50, 51, 52, 53, 54, 55, 56, 57, 97, 98, 99, 100, 101, 102]⟩ : ByteArray) (Int.tmod t1 p1) (IntKind.wrap .i64 ((Int.tmod t1 p1) + 1))) ++ t2))] ?_
    refine RegI.d ?_
    refine RunsI.g 2 [.c 9, .lp 9, .blk 0, .c 19] ?_
    refine RunsI.l [0, 1, 2, 7, 8] [(0, .int .i64 (IntKind.wrap .i64 (Int.tdiv t1 p1))), (1, .int .i64 p1), (2, .int .i64 p2), (7, .string (⟨#[48, 49, 50, 51, 52, 53, 54, 55, 56, 57, 97, 98, 99, 100, 101, 102]⟩ : ByteArray)), (8, .string ((strCut (⟨#[48, 49, 50, 51, 52, 53, 54, 55, 56, 57, 97, 98, 99, 100, 101, 102]⟩ : ByteArray) (Int.tmod t1 p1) (IntKind.wrap .i64 ((Int.tmod t1 p1) + 1))) ++ t2))] ?_
    exact ih (IntKind.wrap .i64 (Int.tdiv t1 p1)) ((strCut (⟨#[48, 49, 50, 51, 52, 53, 54, 55, 56, 57, 97, 98, 99, 100, 101, 102]⟩ : ByteArray) (Int.tmod t1 p1) (IntKind.wrap .i64 ((Int.tmod t1 p1) + 1))) ++ t2) w19 h (h21.pick [] (by decide))
   ·skip
    refine RunsI.f 20 false hc11 ?_
    refine RunsI.b false 14 ?_
    refine RunsI.g 1 [.c 19] ?_
    refine RunsI.l [8] [(8, .string t2)] ?_
    exact hk0 t2 w7 (Option.some.inj h).symm (h6.pick [] (by decide))
  clear hJ9
  rcases of_cond h with ⟨hc3, h⟩ | ⟨hc3, h⟩
  ·skip
   refine RegI.f 11 true hc3 ?_
   refine RegI.p 9 [(0, .int .i64 t1), (1, .int .i64 p1), (2, .int .i64 p2), (7, .string (⟨#[48, 49, 50, 51, 52, 53, 54, 55, 56, 57, 97, 98, 99, 100, 101, 102]⟩ : ByteArray)), (8, .string t2), (20, .bool true)] ?_
   refine RegI.l [0, 1, 2, 7, 8, 20] [(0, .int .i64 t1), (1, .int .i64 p1), (2, .int .i64 p2), (7, .string (⟨#[48, 49, 50, 51, 52, 53, 54, 55, 56, 57, 97, 98, 99, 100, 101, 102]⟩ : ByteArray)), (8, .string t2), (20, .bool true)] ?_
   exact hj10 true w h (hH.pick [] (by decide))
  ·skip
   refine RegI.f 11 false hc3 ?_
   refine RegI.p 6 [(0, .int .i64 t1), (1, .int .i64 p1), (2, .int .i64 p2), (7, .string (⟨#[48, 49, 50, 51, 52, 53, 54, 55, 56, 57, 97, 98, 99, 100, 101, 102]⟩ : ByteArray)), (8, .string t2), (17, .bool (decide ((t2.size : Int) < p2)))] ?_
   rcases of_cond h with ⟨hc4, h⟩ | ⟨hc4, h⟩
   ·skip
    refine RegI.f 17 true hc4 ?_
    refine RegI.p 3 [(0, .int .i64 t1), (1, .int .i64 p1), (2, .int .i64 p2), (7, .string (⟨#[48, 49, 50, 51, 52, 53, 54, 55, 56, 57, 97, 98, 99, 100, 101, 102]⟩ : ByteArray)), (8, .string t2), (20, .bool true)] ?_
    refine RegI.l [0, 1, 2, 7, 8, 20] [(0, .int .i64 t1), (1, .int .i64 p1), (2, .int .i64 p2), (7, .string (⟨#[48, 49, 50, 51, 52, 53, 54, 55, 56, 57, 97, 98, 99, 100, 101, 102]⟩ : ByteArray)), (8, .string t2), (20, .bool true)] ?_
    exact hj10 true w h (hH.pick [] (by decide))
   ·skip
    refine RegI.f 17 false hc4 ?_
    refine RegI.p 3 [(0, .int .i64 t1), (1, .int .i64 p1), (2, .int .i64 p2), (7, .string (⟨#[48, 49, 50, 51, 52, 53, 54, 55, 56, 57, 97, 98, 99, 100, 101, 102]⟩ : ByteArray)), (8, .string t2), (20, .bool ((ByteArray.toList t2) == (ByteArray.toList (⟨#[]⟩ : ByteArray))))] ?_
    refine RegI.l [0, 1, 2, 7, 8, 20] [(0, .int .i64 t1), (1, .int .i64 p1), (2, .int .i64 p2), (7, .string (⟨#[48, 49, 50, 51, 52, 53, 54, 55, 56, 57, 97, 98, 99, 100, 101, 102]⟩ : ByteArray)), (8, .string t2), (20, .bool ((ByteArray.toList t2) == (ByteArray.toList (⟨#[]⟩ : ByteArray))))] ?_
    exact hj10 ((ByteArray.toList t2) == (ByteArray.toList (⟨#[]⟩ : ByteArray))) w h (hH.pick [] (by decide))
def charabancref09_digits_96.f (K : Nat) (p0 : Int) (p1 : Int) (p2 : Int) : Option ByteArray := (charabancref09_digits_96.l0 K p0 p1 p2 K p0 (⟨#[]⟩ : ByteArray)).bind (fun t25 => some t25)
set_option maxRecDepth 100000 in
theorem charabancref09_digits_96_ok (K : Nat) (M0 : Nat → Prop) (w0 : World) (p0 : Int) (p1 : Int) (p2 : Int) (ho : ∀ b, M0 b → b < w0.heap.size) {r : ByteArray} (h : charabancref09_digits_96.f K p0 p1 p2 = some r) :
  Calls Tryd.prog 96 #[.int .i64 p0, .int .i64 p1, .int .i64 p2] w0 (charabancref09_digits_96.post M0 w0 r) := by
 unfold charabancref09_digits_96.f at h
 have h0 : Holds M0 w0 w0 [] := Holds.start ho
 have h0 : Holds M0 w0 w0 [] := h0
 refine calls_of F96 rfl [.int .i64 p0, .int .i64 p1, .int .i64 p2] (by kernel_rfl) ?_
 refine RunsI.g 1 [.c 1, .c 2] ?_
 refine RunsI.r ?_
 refine RegI.p 1 [(0, .int .i64 p0), (1, .int .i64 p1), (2, .int .i64 p2)] ?_
 refine RegI.d ?_
 refine RunsI.g 1 [.c 3, .c 4] ?_
 refine RunsI.r ?_
 refine RegI.p 1 [(0, .int .i64 p0), (1, .int .i64 p1), (2, .int .i64 p2), (7, .string (⟨#[48, 49, 50, 51, 52, 53, 54, 55, 56, 57, 97, 98, 99, 100, 101, 102]⟩ : ByteArray))] ?_
 refine RegI.d ?_
 refine RunsI.g 1 [.c 5, .c 6] ?_
 refine RunsI.r ?_
 refine RegI.p 1 [(0, .int .i64 p0), (1, .int .i64 p1), (2, .int .i64 p2), (7, .string (⟨#[48, 49, 50, 51, 52, 53, 54, 55, 56, 57, 97, 98, 99, 100, 101, 102]⟩ : ByteArray)), (8, .string (⟨#[]⟩ : ByteArray))] ?_
 refine RegI.d ?_
 refine RunsI.g 3 [.c 9, .lp 9, .blk 0, .c 19] ?_
 obtain ⟨x23, hx24, h⟩ := of_bind h
 refine RunsI.l [0, 1, 2, 7, 8] [(0, .int .i64 p0), (1, .int .i64 p1), (2, .int .i64 p2), (7, .string (⟨#[48, 49, 50, 51, 52, 53, 54, 55, 56, 57, 97, 98, 99, 100, 101, 102]⟩ : ByteArray)), (8, .string (⟨#[]⟩ : ByteArray))] ?_
 refine charabancref09_digits_96.l0_ok K M0 w0 p0 p1 p2 _ x23 ?_ K p0 (⟨#[]⟩ : ByteArray) w0 hx24 (h0.pick [] (by decide))
 ·intro t25 w27 hq28 h26
  (try rw [hq28] at h)
  refine RunsI.g 1 [.c 20, .c 21] ?_
  refine RunsI.r ?_
  refine RegI.p 2 [(6, .string t25)] ?_
  refine RegI.d ?_
  refine RunsI.t (.string t25) ?_
  obtain rfl := Option.some.inj h
  exact ⟨rfl, h26.below⟩
end
end Go.Proofs.YtilgjfckgkkfmaaDoor.Tex
