/- The statement's function TextPlanes as a plain Lean function; written by wip/eng.py. -/
import Derived.Test.YtilgjfckgkkfmaaDoorTex5
set_option linter.unusedVariables false
set_option linter.unusedSimpArgs false
set_option maxHeartbeats 4000000
namespace Go.Proofs.YtilgjfckgkkfmaaDoor.Tex
open Go.RowKit Go.Eng
noncomputable def B8 : Code := (Tryd.f8.body).getD .skip
noncomputable def F8 : Fun Tryd.prog := ⟨8, Tryd.f8, B8, 28, Tryd.func8, by kernel_rfl, by kernel_rfl, [], none⟩

/-! ### charabanc/charabanclaw09.TextPlanes (function 8) -/
section
def charabanclaw09_TextPlanes_8.post (M0 : Nat → Prop) (w0 : World) (r : Bool) : Ending → World → Prop := fun e w => e = .returned (.bool r) ∧ Below w0.heap.size w0 w
def charabanclaw09_TextPlanes_8.l0 (K : Nat) (p0 : Int) (p1 : Int) (p2 : Int) : Nat → Int → Option (Lp Unit Unit)
 | 0, _ => none
 | k + 1, t7 => cond (decide (t7 < 256)) ((text_Show_26.f K p0 (IntKind.wrap .u8 t7) p1 p2 0 0).bind fun t22 => (charabancref09_Show_27.f K p0 (IntKind.wrap .u8 t7) p1 p2 0 0).bind fun t24 => cond (!((ByteArray.toList t22) == (ByteArray.toList t24))) (some (Lp.ret ())) (charabanclaw09_TextPlanes_8.l0 K p0 p1 p2 k (IntKind.wrap .i64 (t7 + 1)))) (some (Lp.go ()))
set_option maxRecDepth 100000 in
theorem charabanclaw09_TextPlanes_8.l0_ok (K : Nat) (M0 : Nat → Prop) (w0 : World) (p0 : Int) (p1 : Int) (p2 : Int) (R : Ending → World → Prop) (x : Lp Unit Unit) (hk0 : ∀ (w1 : World), x = Lp.go () → Holds M0 w0 w1 [gl 0 (tab_0.flatMap en_0), gl 1 (tab_1.flatMap en_1), gl 2 (tab_2.flatMap en_2), gl 3 (tab_3.flatMap en_3), gl 4 (tab_4.flatMap en_4), gl 5 (tab_5.flatMap en_5), gl 6 (tab_6.flatMap en_6), gl 7 (tab_7.flatMap en_7), gl 8 (tab_8.flatMap en_8), gl 9 (tab_9.flatMap en_9), gl 10 (tab_10.flatMap en_10), gl 12 (tab_12.flatMap en_12), gl 15 (tab_15.flatMap en_15), gl 16 (tab_16.flatMap en_16)] → RunsI F8 [.c 35] [] w1 R) (hk1 : ∀ (w1 : World), x = Lp.ret () → Holds M0 w0 w1 [gl 0 (tab_0.flatMap en_0), gl 1 (tab_1.flatMap en_1), gl 2 (tab_2.flatMap en_2), gl 3 (tab_3.flatMap en_3), gl 4 (tab_4.flatMap en_4), gl 5 (tab_5.flatMap en_5), gl 6 (tab_6.flatMap en_6), gl 7 (tab_7.flatMap en_7), gl 8 (tab_8.flatMap en_8), gl 9 (tab_9.flatMap en_9), gl 10 (tab_10.flatMap en_10), gl 12 (tab_12.flatMap en_12), gl 15 (tab_15.flatMap en_15), gl 16 (tab_16.flatMap en_16)] → R (.returned (.bool false)) w1) :
  ∀ (k : Nat) (t7 : Int) (w : World), charabanclaw09_TextPlanes_8.l0 K p0 p1 p2 k t7 = some x → Holds M0 w0 w [gl 0 (tab_0.flatMap en_0), gl 1 (tab_1.flatMap en_1), gl 2 (tab_2.flatMap en_2), gl 3 (tab_3.flatMap en_3), gl 4 (tab_4.flatMap en_4), gl 5 (tab_5.flatMap en_5), gl 6 (tab_6.flatMap en_6), gl 7 (tab_7.flatMap en_7), gl 8 (tab_8.flatMap en_8), gl 9 (tab_9.flatMap en_9), gl 10 (tab_10.flatMap en_10), gl 12 (tab_12.flatMap en_12), gl 15 (tab_15.flatMap en_15), gl 16 (tab_16.flatMap en_16)] → RunsI F8 [.c 17, .lp 17, .blk 0, .c 35] [(0, .int .i64 p0), (1, .int .u8 p1), (2, .int .u16 p2), (8, .int .i64 t7)] w R := by
 intro k
 induction k with
 | zero => intro t7 w h hH; exact absurd h (by simp [charabanclaw09_TextPlanes_8.l0])
 | succ k ih =>
  intro t7 w h hH
  rw [charabanclaw09_TextPlanes_8.l0.eq_2] at h
  refine RunsI.g 1 [.c 18, .c 23, .lp 17, .blk 0, .c 35] ?_
  refine RunsI.g 1 [.c 19, .c 20, .c 23, .lp 17, .blk 0, .c 35] ?_
  refine RunsI.r ?_
  refine RegI.p 2 [(0, .int .i64 p0), (1, .int .u8 p1), (2, .int .u16 p2), (8, .int .i64 t7), (14, .bool (decide (t7 < 256)))] ?_
  refine RegI.d ?_
  rcases of_cond h with ⟨hc8, h⟩ | ⟨hc8, h⟩
  ·skip
   refine RunsI.f 14 true hc8 ?_
   refine RunsI.b true 21 ?_
   refine RunsI.g 1 [.c 23, .lp 17, .blk 0, .c 35] ?_
   refine RunsI.g 3 [.c 26, .c 27, .blk 1, .c 34, .lp 17, .blk 0, .c 35] ?_
   refine RunsI.r ?_
   refine RegI.p 6 [(0, .int .i64 p0), (1, .int .u8 p1), (2, .int .u16 p2), (8, .int .i64 t7), (22, .agg #[.int .i64 p0, .int .u8 (IntKind.wrap .u8 t7), .int .u8 p1, .int .u16 p2, .int .i64 0, .int .i64 0])] ?_
   refine RegI.o (OpE.box 9 51 [.int .i64 0, .int .u8 0, .int .u8 0, .int .u16 0, .int .i64 0, .int .i64 0] hH (by kernel_rfl) (by kernel_rfl) ?_)
   intro w9 b10 h11 hb12 hn13
   refine RegI.o (OpE.storeBox 14 51 b10 0 (.agg #[.int .i64 p0, .int .u8 (IntKind.wrap .u8 t7), .int .u8 p1, .int .u16 p2, .int .i64 0, .int .i64 0]) [.int .i64 p0, .int .u8 (IntKind.wrap .u8 t7), .int .u8 p1, .int .u16 p2, .int .i64 0, .int .i64 0] h11 (by kernel_rfl) (by kernel_rfl) rfl (by kernel_rfl) (by kernel_rfl) (by kernel_rfl) ?_)
   intro w14 h15 hk16
   refine RegI.d ?_
   refine RunsI.g 1 [.c 28, .c 29, .blk 1, .c 34, .lp 17, .blk 0, .c 35] ?_
   refine RunsI.any 5 (by kernel_rfl) (by kernel_rfl) (by kernel_rfl) (Kp ([] : List Nat) (World.drew w14)) ?_
   have h18 := h15.drew
   generalize World.drew w14 = w17 at h18 ⊢
   have hS19 := Kp.refl ([] : List Nat) w17
   refine AnyE.loadBox 0 23 14 51 b10 0 (.agg #[.int .i64 p0, .int .u8 (IntKind.wrap .u8 t7), .int .u8 p1, .int .u16 p2, .int .i64 0, .int .i64 0]) [] h18 rfl (by kernel_rfl) hS19 rfl rfl (by kernel_rfl) (by kernel_rfl) ?_
   obtain ⟨t22, hg21, h⟩ := of_bind h
   refine AnyE.call 1 24 (.string t22) 26 #[.agg #[.int .i64 p0, .int .u8 (IntKind.wrap .u8 t7), .int .u8 p1, .int .u16 p2, .int .i64 0, .int .i64 0]] (by kernel_rfl) hS19 (fun _ => by kernel_rfl) (fun w hk => text_Show_26_ok K (fun _ => False) w p0 (IntKind.wrap .u8 t7) p1 p2 0 0 (fun _ hf => hf.elim) ⟨(h18.atI [] rfl hk 0 rfl rfl).1, fun hf => hf.elim, (h18.atI [] rfl hk 0 rfl rfl).2.2⟩ ⟨(h18.atI [] rfl hk 1 rfl rfl).1, fun hf => hf.elim, (h18.atI [] rfl hk 1 rfl rfl).2.2⟩ ⟨(h18.atI [] rfl hk 2 rfl rfl).1, fun hf => hf.elim, (h18.atI [] rfl hk 2 rfl rfl).2.2⟩ ⟨(h18.atI [] rfl hk 3 rfl rfl).1, fun hf => hf.elim, (h18.atI [] rfl hk 3 rfl rfl).2.2⟩ ⟨(h18.atI [] rfl hk 4 rfl rfl).1, fun hf => hf.elim, (h18.atI [] rfl hk 4 rfl rfl).2.2⟩ ⟨(h18.atI [] rfl hk 5 rfl rfl).1, fun hf => hf.elim, (h18.atI [] rfl hk 5 rfl rfl).2.2⟩ ⟨(h18.atI [] rfl hk 6 rfl rfl).1, fun hf => hf.elim, (h18.atI [] rfl hk 6 rfl rfl).2.2⟩ ⟨(h18.atI [] rfl hk 7 rfl rfl).1, fun hf => hf.elim, (h18.atI [] rfl hk 7 rfl rfl).2.2⟩ ⟨(h18.atI [] rfl hk 8 rfl rfl).1, fun hf => hf.elim, (h18.atI [] rfl hk 8 rfl rfl).2.2⟩ ⟨(h18.atI [] rfl hk 9 rfl rfl).1, fun hf => hf.elim, (h18.atI [] rfl hk 9 rfl rfl).2.2⟩ ⟨(h18.atI [] rfl hk 10 rfl rfl).1, fun hf => hf.elim, (h18.atI [] rfl hk 10 rfl rfl).2.2⟩ ⟨(h18.atI [] rfl hk 11 rfl rfl).1, fun hf => hf.elim, (h18.atI [] rfl hk 11 rfl rfl).2.2⟩ ⟨(h18.atI [] rfl hk 12 rfl rfl).1, fun hf => hf.elim, (h18.atI [] rfl hk 12 rfl rfl).2.2⟩ ⟨(h18.atI [] rfl hk 13 rfl rfl).1, fun hf => hf.elim, (h18.atI [] rfl hk 13 rfl rfl).2.2⟩ hg21) ?_
   refine AnyE.loadBox 2 25 14 51 b10 0 (.agg #[.int .i64 p0, .int .u8 (IntKind.wrap .u8 t7), .int .u8 p1, .int .u16 p2, .int .i64 0, .int .i64 0]) [] h18 rfl (by kernel_rfl) hS19 rfl rfl (by kernel_rfl) (by kernel_rfl) ?_
   obtain ⟨t24, hg23, h⟩ := of_bind h
   refine AnyE.call 3 26 (.string t24) 27 #[.agg #[.int .i64 p0, .int .u8 (IntKind.wrap .u8 t7), .int .u8 p1, .int .u16 p2, .int .i64 0, .int .i64 0]] (by kernel_rfl) hS19 (fun _ => by kernel_rfl) (fun w hk => charabancref09_Show_27_ok K (fun _ => False) w p0 (IntKind.wrap .u8 t7) p1 p2 0 0 (fun _ hf => hf.elim) hg23) ?_
   refine AnyE.pure 4 27 (.bool (!((ByteArray.toList t22) == (ByteArray.toList t24)))) (by kernel_rfl) hS19 (fun _ => by kernel_rfl) ?_
   refine AnyE.done (by kernel_rfl) (fun w25 hu26 => ?_)
   have h27 := h18.call hu26
   refine RunsI.l [0, 1, 2, 8, 27] [(0, .int .i64 p0), (1, .int .u8 p1), (2, .int .u16 p2), (8, .int .i64 t7), (27, .bool (!((ByteArray.toList t22) == (ByteArray.toList t24))))] ?_
   rcases of_cond h with ⟨hc28, h⟩ | ⟨hc28, h⟩
   ·skip
    refine RunsI.f 27 true hc28 ?_
    refine RunsI.b true 30 ?_
    refine RunsI.g 1 [.c 31, .c 32, .blk 1, .c 34, .lp 17, .blk 0, .c 35] ?_
    refine RunsI.r ?_
    refine RegI.p 1 [(6, .bool false)] ?_
    refine RegI.d ?_
    refine RunsI.t (.bool false) ?_
    exact hk1 w25 (Option.some.inj h).symm (h27.pick [0, 1, 2, 3, 4, 5, 6, 7, 8, 9, 10, 11, 12, 13] (by decide))
   ·skip
    refine RunsI.f 27 false hc28 ?_
    refine RunsI.b false 33 ?_
    refine RunsI.g 1 [.blk 1, .c 34, .lp 17, .blk 0, .c 35] ?_
    refine RunsI.g 1 [.c 34, .lp 17, .blk 0, .c 35] ?_
    refine RunsI.r ?_
    refine RegI.p 3 [(0, .int .i64 p0), (1, .int .u8 p1), (2, .int .u16 p2), (8, .int .i64 (IntKind.wrap .i64 (t7 + 1)))] ?_
    refine RegI.d ?_
    refine RunsI.g 1 [.c 17, .lp 17, .blk 0, .c 35] ?_
    refine RunsI.l [0, 1, 2, 8] [(0, .int .i64 p0), (1, .int .u8 p1), (2, .int .u16 p2), (8, .int .i64 (IntKind.wrap .i64 (t7 + 1)))] ?_
    exact ih (IntKind.wrap .i64 (t7 + 1)) w25 h (h27.pick [0, 1, 2, 3, 4, 5, 6, 7, 8, 9, 10, 11, 12, 13] (by decide))
  ·skip
   refine RunsI.f 14 false hc8 ?_
   refine RunsI.b false 22 ?_
   refine RunsI.g 1 [.c 35] ?_
   refine RunsI.l [] [] ?_
   exact hk0 w (Option.some.inj h).symm (hH.pick [0, 1, 2, 3, 4, 5, 6, 7, 8, 9, 10, 11, 12, 13] (by decide))
def charabanclaw09_TextPlanes_8.f (K : Nat) (p0 : Int) (p1 : Int) (p2 : Int) : Option Bool := (charabanclaw09_awake_25.f K).bind fun t5 => cond (!t5) (some false) ((charabanclaw09_TextPlanes_8.l0 K p0 p1 p2 K 0).bind (fun x29 => Lp.elim x29 (fun _ => some false) (fun _ => some true)))
set_option maxRecDepth 100000 in
theorem charabanclaw09_TextPlanes_8_ok (K : Nat) (M0 : Nat → Prop) (w0 : World) (p0 : Int) (p1 : Int) (p2 : Int) (ho : ∀ b, M0 b → b < w0.heap.size) (hG0 : (gl 0 (tab_0.flatMap en_0)).ok w0 M0) (hG1 : (gl 1 (tab_1.flatMap en_1)).ok w0 M0) (hG2 : (gl 2 (tab_2.flatMap en_2)).ok w0 M0) (hG3 : (gl 3 (tab_3.flatMap en_3)).ok w0 M0) (hG4 : (gl 4 (tab_4.flatMap en_4)).ok w0 M0) (hG5 : (gl 5 (tab_5.flatMap en_5)).ok w0 M0) (hG6 : (gl 6 (tab_6.flatMap en_6)).ok w0 M0) (hG7 : (gl 7 (tab_7.flatMap en_7)).ok w0 M0) (hG8 : (gl 8 (tab_8.flatMap en_8)).ok w0 M0) (hG9 : (gl 9 (tab_9.flatMap en_9)).ok w0 M0) (hG10 : (gl 10 (tab_10.flatMap en_10)).ok w0 M0) (hG12 : (gl 12 (tab_12.flatMap en_12)).ok w0 M0) (hG15 : (gl 15 (tab_15.flatMap en_15)).ok w0 M0) (hG16 : (gl 16 (tab_16.flatMap en_16)).ok w0 M0) {r : Bool} (h : charabanclaw09_TextPlanes_8.f K p0 p1 p2 = some r) :
  Calls Tryd.prog 8 #[.int .i64 p0, .int .u8 p1, .int .u16 p2] w0 (charabanclaw09_TextPlanes_8.post M0 w0 r) := by
 unfold charabanclaw09_TextPlanes_8.f at h
 have h0 : Holds M0 w0 w0 [] := Holds.start ho
 have h0g0 := h0.add (gl 0 (tab_0.flatMap en_0)) rfl ⟨hG0.1, fun hm => hG0.2.1 (hm.elim id (fun hm => absurd hm (by simp [mines, sl, gl]))), hG0.2.2⟩
 have h0g1 := h0g0.add (gl 1 (tab_1.flatMap en_1)) rfl ⟨hG1.1, fun hm => hG1.2.1 (hm.elim id (fun hm => absurd hm (by simp [mines, sl, gl]))), hG1.2.2⟩
 have h0g2 := h0g1.add (gl 2 (tab_2.flatMap en_2)) rfl ⟨hG2.1, fun hm => hG2.2.1 (hm.elim id (fun hm => absurd hm (by simp [mines, sl, gl]))), hG2.2.2⟩
 have h0g3 := h0g2.add (gl 3 (tab_3.flatMap en_3)) rfl ⟨hG3.1, fun hm => hG3.2.1 (hm.elim id (fun hm => absurd hm (by simp [mines, sl, gl]))), hG3.2.2⟩
 have h0g4 := h0g3.add (gl 4 (tab_4.flatMap en_4)) rfl ⟨hG4.1, fun hm => hG4.2.1 (hm.elim id (fun hm => absurd hm (by simp [mines, sl, gl]))), hG4.2.2⟩
 have h0g5 := h0g4.add (gl 5 (tab_5.flatMap en_5)) rfl ⟨hG5.1, fun hm => hG5.2.1 (hm.elim id (fun hm => absurd hm (by simp [mines, sl, gl]))), hG5.2.2⟩
 have h0g6 := h0g5.add (gl 6 (tab_6.flatMap en_6)) rfl ⟨hG6.1, fun hm => hG6.2.1 (hm.elim id (fun hm => absurd hm (by simp [mines, sl, gl]))), hG6.2.2⟩
 have h0g7 := h0g6.add (gl 7 (tab_7.flatMap en_7)) rfl ⟨hG7.1, fun hm => hG7.2.1 (hm.elim id (fun hm => absurd hm (by simp [mines, sl, gl]))), hG7.2.2⟩
 have h0g8 := h0g7.add (gl 8 (tab_8.flatMap en_8)) rfl ⟨hG8.1, fun hm => hG8.2.1 (hm.elim id (fun hm => absurd hm (by simp [mines, sl, gl]))), hG8.2.2⟩
 have h0g9 := h0g8.add (gl 9 (tab_9.flatMap en_9)) rfl ⟨hG9.1, fun hm => hG9.2.1 (hm.elim id (fun hm => absurd hm (by simp [mines, sl, gl]))), hG9.2.2⟩
 have h0g10 := h0g9.add (gl 10 (tab_10.flatMap en_10)) rfl ⟨hG10.1, fun hm => hG10.2.1 (hm.elim id (fun hm => absurd hm (by simp [mines, sl, gl]))), hG10.2.2⟩
 have h0g12 := h0g10.add (gl 12 (tab_12.flatMap en_12)) rfl ⟨hG12.1, fun hm => hG12.2.1 (hm.elim id (fun hm => absurd hm (by simp [mines, sl, gl]))), hG12.2.2⟩
 have h0g15 := h0g12.add (gl 15 (tab_15.flatMap en_15)) rfl ⟨hG15.1, fun hm => hG15.2.1 (hm.elim id (fun hm => absurd hm (by simp [mines, sl, gl]))), hG15.2.2⟩
 have h0g16 := h0g15.add (gl 16 (tab_16.flatMap en_16)) rfl ⟨hG16.1, fun hm => hG16.2.1 (hm.elim id (fun hm => absurd hm (by simp [mines, sl, gl]))), hG16.2.2⟩
 have h0 : Holds M0 w0 w0 [gl 0 (tab_0.flatMap en_0), gl 1 (tab_1.flatMap en_1), gl 2 (tab_2.flatMap en_2), gl 3 (tab_3.flatMap en_3), gl 4 (tab_4.flatMap en_4), gl 5 (tab_5.flatMap en_5), gl 6 (tab_6.flatMap en_6), gl 7 (tab_7.flatMap en_7), gl 8 (tab_8.flatMap en_8), gl 9 (tab_9.flatMap en_9), gl 10 (tab_10.flatMap en_10), gl 12 (tab_12.flatMap en_12), gl 15 (tab_15.flatMap en_15), gl 16 (tab_16.flatMap en_16)] := h0g16
 refine calls_of F8 rfl [.int .i64 p0, .int .u8 p1, .int .u16 p2] (by kernel_rfl) ?_
 refine RunsI.g 1 [.c 1, .c 2] ?_
 refine RunsI.r ?_
 refine RegI.p 1 [(0, .int .i64 p0), (1, .int .u8 p1), (2, .int .u16 p2)] ?_
 refine RegI.d ?_
 refine RunsI.g 1 [.c 3, .c 4] ?_
 refine RunsI.r ?_
 obtain ⟨t5, hg4, h⟩ := of_bind h
 refine RegI.o (OpE.call 10 (by kernel_rfl) 25 #[] (by kernel_rfl) ((charabanclaw09_awake_25_ok K _ w0  h0.old' (h0.get 0 rfl) (h0.get 1 rfl) (h0.get 2 rfl) (h0.get 3 rfl) (h0.get 4 rfl) (h0.get 5 rfl) (h0.get 6 rfl) (h0.get 7 rfl) (h0.get 8 rfl) (h0.get 9 rfl) (h0.get 10 rfl) (h0.get 11 rfl) (h0.get 12 rfl) (h0.get 13 rfl) hg4).mono ?_))
 rintro _ w1 ⟨rfl, hb2⟩
 refine ⟨_, rfl, ?_⟩
 have h3 := h0.call hb2
 refine RegI.p 1 [(0, .int .i64 p0), (1, .int .u8 p1), (2, .int .u16 p2), (7, .bool t5)] ?_
 refine RegI.d ?_
 refine RunsI.g 2 [.c 6, .c 7, .c 12] ?_
 refine RunsI.r ?_
 refine RegI.p 2 [(0, .int .i64 p0), (1, .int .u8 p1), (2, .int .u16 p2), (12, .bool (!t5))] ?_
 refine RegI.d ?_
 rcases of_cond h with ⟨hc6, h⟩ | ⟨hc6, h⟩
 ·skip
  refine RunsI.f 12 true hc6 ?_
  refine RunsI.b true 8 ?_
  refine RunsI.g 1 [.c 9, .c 10, .c 12] ?_
  refine RunsI.r ?_
  refine RegI.p 1 [(6, .bool false)] ?_
  refine RegI.d ?_
  refine RunsI.t (.bool false) ?_
  obtain rfl := Option.some.inj h
  exact ⟨rfl, h3.below⟩
 ·skip
  refine RunsI.f 12 false hc6 ?_
  refine RunsI.b false 11 ?_
  refine RunsI.g 1 [.c 12] ?_
  refine RunsI.g 2 [.c 14, .c 15, .c 35] ?_
  refine RunsI.r ?_
  refine RegI.p 1 [(0, .int .i64 p0), (1, .int .u8 p1), (2, .int .u16 p2), (8, .int .i64 0)] ?_
  refine RegI.d ?_
  refine RunsI.g 2 [.c 17, .lp 17, .blk 0, .c 35] ?_
  obtain ⟨x29, hx30, h⟩ := of_bind h
  refine RunsI.l [0, 1, 2, 8] [(0, .int .i64 p0), (1, .int .u8 p1), (2, .int .u16 p2), (8, .int .i64 0)] ?_
  refine charabanclaw09_TextPlanes_8.l0_ok K M0 w0 p0 p1 p2 _ x29 ?_ ?_ K 0 w1 hx30 (h3.pick [0, 1, 2, 3, 4, 5, 6, 7, 8, 9, 10, 11, 12, 13] (by decide))
  ·intro w32 hq35 h31
   (try rw [hq35] at h)
   dsimp only [Lp.elim] at h
   refine RunsI.g 1 [.c 36, .c 37] ?_
   refine RunsI.r ?_
   refine RegI.p 1 [(6, .bool true)] ?_
   refine RegI.d ?_
   refine RunsI.t (.bool true) ?_
   obtain rfl := Option.some.inj h
   exact ⟨rfl, h31.below⟩
  ·intro w34 hq36 h33
   (try rw [hq36] at h)
   dsimp only [Lp.elim] at h
   obtain rfl := Option.some.inj h
   exact ⟨rfl, h33.below⟩
end
end Go.Proofs.YtilgjfckgkkfmaaDoor.Tex
