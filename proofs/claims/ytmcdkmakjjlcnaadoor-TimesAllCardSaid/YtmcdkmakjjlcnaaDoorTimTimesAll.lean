/- The statement's function TimesAll as a plain Lean function; written by wip/eng.py. -/
import Derived.Test.YtmcdkmakjjlcnaaDoorTim4
set_option linter.unusedVariables false
set_option linter.unusedSimpArgs false
set_option maxHeartbeats 4000000
namespace Go.Proofs.YtmcdkmakjjlcnaaDoor.Tim
open Go.RowKit Go.Eng
noncomputable def B4 : Code := (Tryd.f4.body).getD .skip
noncomputable def F4 : Fun Tryd.prog := ⟨4, Tryd.f4, B4, 44, Tryd.func4, by kernel_rfl, by kernel_rfl, [], none⟩

/-! ### charabanc/charabanclaw10.TimesAll (function 4) -/
section
def charabanclaw10_TimesAll_4.post (M0 : Nat → Prop) (w0 : World) (r : Bool) : Ending → World → Prop := fun e w => e = .returned (.bool r) ∧ Below w0.heap.size w0 w
def charabanclaw10_TimesAll_4.l0 (K : Nat) (p0 : List Int) (p1 : Int) : Nat → Int → Option (Lp Unit Unit)
  | 0, _ => none
  | k + 1, t8 => cond (decide (t8 < 256)) ((times_Of_9.f K p1 (IntKind.wrap .u8 t8) 0 0 0 0 false).bind fun t23 => (charabancref10_Of_10.f K p1 (IntKind.wrap .u8 t8) 0 0 0 0 false).bind fun t25 => Let (fun (t37 : Bool) => cond t37 (some (Lp.ret ())) (charabanclaw10_TimesAll_4.l0 K p0 p1 k (IntKind.wrap .i64 (t8 + 1)))) (fun j40 => cond (t23 != t25) (j40 true) ((times_Of_9.f K p1 (IntKind.wrap .u8 t8) 0 0 0 0 true).bind fun t31 => (charabancref10_Of_10.f K p1 (IntKind.wrap .u8 t8) 0 0 0 0 true).bind fun t33 => j40 (t31 != t33)))) (some (Lp.go ()))
set_option maxRecDepth 100000 in
theorem charabanclaw10_TimesAll_4.l0_ok (K : Nat) (M0 : Nat → Prop) (w0 : World) (pA0 : Option Addr) (pc0 : Nat) (p0 : List Int) (p1 : Int) (R : Ending → World → Prop) (x : Lp Unit Unit) (hk0 : ∀ (w1 : World), x = Lp.go () → Holds M0 w0 w1 [sl (Rp.int .u8) (.slice pA0 p0.length pc0) p0, gl 0 (tab_0.flatMap en_0), gl 1 (tab_1.flatMap en_1)] → RunsI F4 [.c 43] [(0, .slice pA0 p0.length pc0)] w1 R) (hk1 : ∀ (w1 : World), x = Lp.ret () → Holds M0 w0 w1 [gl 0 (tab_0.flatMap en_0), gl 1 (tab_1.flatMap en_1)] → R (.returned (.bool false)) w1) :
    ∀ (k : Nat) (t8 : Int) (w : World), charabanclaw10_TimesAll_4.l0 K p0 p1 k t8 = some x → Holds M0 w0 w [sl (Rp.int .u8) (.slice pA0 p0.length pc0) p0, gl 0 (tab_0.flatMap en_0), gl 1 (tab_1.flatMap en_1)] → RunsI F4 [.c 25, .lp 25, .blk 0, .c 43] [(0, .slice pA0 p0.length pc0), (1, .int .i64 p1), (6, .int .i64 t8)] w R := by
  intro k
  induction k with
  | zero => intro t8 w h hH; exact absurd h (by simp [charabanclaw10_TimesAll_4.l0])
  | succ k ih =>
    intro t8 w h hH
    rw [charabanclaw10_TimesAll_4.l0.eq_2] at h
    refine RunsI.go 1 [.c 26, .c 31, .lp 25, .blk 0, .c 43] (by kernel_rfl) ?_
    refine RunsI.go 1 [.c 27, .c 28, .c 31, .lp 25, .blk 0, .c 43] (by kernel_rfl) ?_
    refine RunsI.region (by kernel_rfl) ?_
    refine RegI.pure 2 [0, 1, 6, 15] [(0, .slice pA0 p0.length pc0), (1, .int .i64 p1), (6, .int .i64 t8), (15, .bool (decide (t8 < 256)))] (by kernel_rfl) ?_
    refine RegI.done (by kernel_rfl) ?_
    rcases of_cond h with ⟨hc9, h⟩ | ⟨hc9, h⟩
    · skip
      refine RunsI.fix 15 true hc9 (by kernel_rfl) (by kernel_rfl) ?_
      refine RunsI.cond true 29 (by kernel_rfl) ?_
      refine RunsI.go 1 [.c 31, .lp 25, .blk 0, .c 43] (by kernel_rfl) ?_
      refine RunsI.go 3 [.c 34, .c 35, .blk 1, .c 42, .lp 25, .blk 0, .c 43] (by kernel_rfl) ?_
      refine RunsI.region (by kernel_rfl) ?_
      refine RegI.pure 4 [0, 1, 6, 21] [(0, .slice pA0 p0.length pc0), (1, .int .i64 p1), (6, .int .i64 t8), (21, .agg #[.int .i64 p1, .int .u8 (IntKind.wrap .u8 t8), .int .u8 0, .int .u16 0, .int .i64 0, .int .i64 0])] (by kernel_rfl) ?_
      refine RegI.op (by kernel_rfl) (OpE.box 7 24 [.int .i64 0, .int .u8 0, .int .u8 0, .int .u16 0, .int .i64 0, .int .i64 0] hH (by kernel_rfl) (by kernel_rfl) ?_)
      intro w10 b11 h12 hb13 hn14
      refine RegI.op (by kernel_rfl) (OpE.storeBox 3 24 b11 0 (.agg #[.int .i64 p1, .int .u8 (IntKind.wrap .u8 t8), .int .u8 0, .int .u16 0, .int .i64 0, .int .i64 0]) [.int .i64 p1, .int .u8 (IntKind.wrap .u8 t8), .int .u8 0, .int .u16 0, .int .i64 0, .int .i64 0] h12 (by kernel_rfl) (by kernel_rfl) rfl (by kernel_rfl) (by kernel_rfl) (by kernel_rfl) ?_)
      intro w15 h16 hk17
      refine RegI.done (by kernel_rfl) ?_
      refine RunsI.go 1 [.c 36, .c 37, .blk 1, .c 42, .lp 25, .blk 0, .c 43] (by kernel_rfl) ?_
      refine RunsI.any 12 (by kernel_rfl) (by kernel_rfl) (by kernel_rfl) (Kp ([] : List Nat) (World.drew w15)) ?_
      have h19 := h16.drew
      generalize World.drew w15 = w18 at h19 ⊢
      have hS20 := Kp.refl ([] : List Nat) w18
      refine AnyE.loadBox 0 22 3 24 b11 0 (.agg #[.int .i64 p1, .int .u8 (IntKind.wrap .u8 t8), .int .u8 0, .int .u16 0, .int .i64 0, .int .i64 0]) [] h19 rfl (by kernel_rfl) hS20 rfl rfl (by kernel_rfl) (by kernel_rfl) ?_
      obtain ⟨t23, hg22, h⟩ := of_bind h
      refine AnyE.call 1 23 (.int .i64 t23) 9 #[.agg #[.int .i64 p1, .int .u8 (IntKind.wrap .u8 t8), .int .u8 0, .int .u16 0, .int .i64 0, .int .i64 0], .bool false] (by kernel_rfl) hS20 (fun _ => by kernel_rfl) (fun w hk => times_Of_9_ok K (fun _ => False) w p1 (IntKind.wrap .u8 t8) 0 0 0 0 false (fun _ hf => hf.elim) ⟨(h19.atI [] rfl hk 1 rfl rfl).1, fun hf => hf.elim, (h19.atI [] rfl hk 1 rfl rfl).2.2⟩ ⟨(h19.atI [] rfl hk 2 rfl rfl).1, fun hf => hf.elim, (h19.atI [] rfl hk 2 rfl rfl).2.2⟩ hg22) ?_
      refine AnyE.loadBox 2 24 3 24 b11 0 (.agg #[.int .i64 p1, .int .u8 (IntKind.wrap .u8 t8), .int .u8 0, .int .u16 0, .int .i64 0, .int .i64 0]) [] h19 rfl (by kernel_rfl) hS20 rfl rfl (by kernel_rfl) (by kernel_rfl) ?_
      obtain ⟨t25, hg24, h⟩ := of_bind h
      refine AnyE.call 3 25 (.int .i64 t25) 10 #[.agg #[.int .i64 p1, .int .u8 (IntKind.wrap .u8 t8), .int .u8 0, .int .u16 0, .int .i64 0, .int .i64 0], .bool false] (by kernel_rfl) hS20 (fun _ => by kernel_rfl) (fun w hk => charabancref10_Of_10_ok K (fun _ => False) w p1 (IntKind.wrap .u8 t8) 0 0 0 0 false (fun _ hf => hf.elim) hg24) ?_
      refine AnyE.pure 4 26 (.bool (t23 != t25)) (by kernel_rfl) hS20 (fun _ => by kernel_rfl) ?_
      refine AnyE.pure 5 27 (.bool (t23 != t25)) (by kernel_rfl) hS20 (fun _ => by kernel_rfl) ?_
      obtain ⟨j40, hJ41, h⟩ := of_let h
      have hj42 : ∀ (t37 : Bool) (w39 : World), j40 t37 = some x → Holds M0 w0 w39 [sl (Rp.int .u8) (.slice pA0 p0.length pc0) p0, gl 0 (tab_0.flatMap en_0), gl 1 (tab_1.flatMap en_1)] → RunsI F4 [.c 37, .blk 1, .c 42, .lp 25, .blk 0, .c 43] [(0, .slice pA0 p0.length pc0), (1, .int .i64 p1), (6, .int .i64 t8), (33, .bool t37)] w39 R := by
        intro t37 w39 h h38
        rw [hJ41] at h
        clear hJ41
        dsimp only at h
        rcases of_cond h with ⟨hc43, h⟩ | ⟨hc43, h⟩
        · skip
          refine RunsI.fix 33 true hc43 (by kernel_rfl) (by kernel_rfl) ?_
          refine RunsI.cond true 38 (by kernel_rfl) ?_
          refine RunsI.go 1 [.c 39, .c 40, .blk 1, .c 42, .lp 25, .blk 0, .c 43] (by kernel_rfl) ?_
          refine RunsI.region (by kernel_rfl) ?_
          refine RegI.pure 1 [4] [(4, .bool false)] (by kernel_rfl) ?_
          refine RegI.done (by kernel_rfl) ?_
          refine RunsI.ret (.bool false) (by kernel_rfl) (by kernel_rfl) ?_
          exact hk1 w39 (Option.some.inj h).symm (h38.pick [1, 2] (by decide))
        · skip
          refine RunsI.fix 33 false hc43 (by kernel_rfl) (by kernel_rfl) ?_
          refine RunsI.cond false 41 (by kernel_rfl) ?_
          refine RunsI.go 1 [.blk 1, .c 42, .lp 25, .blk 0, .c 43] (by kernel_rfl) ?_
          refine RunsI.go 1 [.c 42, .lp 25, .blk 0, .c 43] (by kernel_rfl) ?_
          refine RunsI.region (by kernel_rfl) ?_
          refine RegI.pure 3 [0, 1, 6] [(0, .slice pA0 p0.length pc0), (1, .int .i64 p1), (6, .int .i64 (IntKind.wrap .i64 (t8 + 1)))] (by kernel_rfl) ?_
          refine RegI.done (by kernel_rfl) ?_
          refine RunsI.go 1 [.c 25, .lp 25, .blk 0, .c 43] (by kernel_rfl) ?_
          refine RunsI.only [0, 1, 6] [(0, .slice pA0 p0.length pc0), (1, .int .i64 p1), (6, .int .i64 (IntKind.wrap .i64 (t8 + 1)))] (by kernel_rfl) (by kernel_rfl) ?_
          exact ih (IntKind.wrap .i64 (t8 + 1)) w39 h (h38.pick [0, 1, 2] (by decide))
      clear hJ41
      rcases of_cond h with ⟨hc26, h⟩ | ⟨hc26, h⟩
      · skip
        refine AnyE.fix 27 true hc26 (by kernel_rfl) (by kernel_rfl) ?_
        refine AnyE.no 6 28 (by kernel_rfl) hS20 ?_
        refine AnyE.no 7 29 (by kernel_rfl) hS20 ?_
        refine AnyE.no 8 30 (by kernel_rfl) hS20 ?_
        refine AnyE.no 9 31 (by kernel_rfl) hS20 ?_
        refine AnyE.no 10 32 (by kernel_rfl) hS20 ?_
        refine AnyE.pure 11 33 (.bool true) (by kernel_rfl) hS20 (fun _ => by kernel_rfl) ?_
        refine AnyE.done (by kernel_rfl) (fun w27 hu28 => ?_)
        have h29 := h19.call hu28
        refine RunsI.only [0, 1, 6, 28, 29, 30, 31, 32, 33] [(0, .slice pA0 p0.length pc0), (1, .int .i64 p1), (6, .int .i64 t8), (28, undef), (29, undef), (30, undef), (31, undef), (32, undef), (33, .bool true)] (by kernel_rfl) (by kernel_rfl) ?_
        refine RunsI.only [0, 1, 6, 33] [(0, .slice pA0 p0.length pc0), (1, .int .i64 p1), (6, .int .i64 t8), (33, .bool true)] (by kernel_rfl) (by kernel_rfl) ?_
        exact hj42 true w27 h (h29.pick [0, 1, 2] (by decide))
      · skip
        refine AnyE.fix 27 false hc26 (by kernel_rfl) (by kernel_rfl) ?_
        refine AnyE.loadBox 6 28 3 24 b11 0 (.agg #[.int .i64 p1, .int .u8 (IntKind.wrap .u8 t8), .int .u8 0, .int .u16 0, .int .i64 0, .int .i64 0]) [] h19 rfl (by kernel_rfl) hS20 rfl rfl (by kernel_rfl) (by kernel_rfl) ?_
        obtain ⟨t31, hg30, h⟩ := of_bind h
        refine AnyE.call 7 29 (.int .i64 t31) 9 #[.agg #[.int .i64 p1, .int .u8 (IntKind.wrap .u8 t8), .int .u8 0, .int .u16 0, .int .i64 0, .int .i64 0], .bool true] (by kernel_rfl) hS20 (fun _ => by kernel_rfl) (fun w hk => times_Of_9_ok K (fun _ => False) w p1 (IntKind.wrap .u8 t8) 0 0 0 0 true (fun _ hf => hf.elim) ⟨(h19.atI [] rfl hk 1 rfl rfl).1, fun hf => hf.elim, (h19.atI [] rfl hk 1 rfl rfl).2.2⟩ ⟨(h19.atI [] rfl hk 2 rfl rfl).1, fun hf => hf.elim, (h19.atI [] rfl hk 2 rfl rfl).2.2⟩ hg30) ?_
        refine AnyE.loadBox 8 30 3 24 b11 0 (.agg #[.int .i64 p1, .int .u8 (IntKind.wrap .u8 t8), .int .u8 0, .int .u16 0, .int .i64 0, .int .i64 0]) [] h19 rfl (by kernel_rfl) hS20 rfl rfl (by kernel_rfl) (by kernel_rfl) ?_
        obtain ⟨t33, hg32, h⟩ := of_bind h
        refine AnyE.call 9 31 (.int .i64 t33) 10 #[.agg #[.int .i64 p1, .int .u8 (IntKind.wrap .u8 t8), .int .u8 0, .int .u16 0, .int .i64 0, .int .i64 0], .bool true] (by kernel_rfl) hS20 (fun _ => by kernel_rfl) (fun w hk => charabancref10_Of_10_ok K (fun _ => False) w p1 (IntKind.wrap .u8 t8) 0 0 0 0 true (fun _ hf => hf.elim) hg32) ?_
        refine AnyE.pure 10 32 (.bool (t31 != t33)) (by kernel_rfl) hS20 (fun _ => by kernel_rfl) ?_
        refine AnyE.pure 11 33 (.bool (t31 != t33)) (by kernel_rfl) hS20 (fun _ => by kernel_rfl) ?_
        refine AnyE.done (by kernel_rfl) (fun w34 hu35 => ?_)
        have h36 := h19.call hu35
        refine RunsI.only [0, 1, 6, 28, 29, 30, 31, 32, 33] [(0, .slice pA0 p0.length pc0), (1, .int .i64 p1), (6, .int .i64 t8), (28, .agg #[.int .i64 p1, .int .u8 (IntKind.wrap .u8 t8), .int .u8 0, .int .u16 0, .int .i64 0, .int .i64 0]), (29, .int .i64 t31), (30, .agg #[.int .i64 p1, .int .u8 (IntKind.wrap .u8 t8), .int .u8 0, .int .u16 0, .int .i64 0, .int .i64 0]), (31, .int .i64 t33), (32, .bool (t31 != t33)), (33, .bool (t31 != t33))] (by kernel_rfl) (by kernel_rfl) ?_
        refine RunsI.only [0, 1, 6, 33] [(0, .slice pA0 p0.length pc0), (1, .int .i64 p1), (6, .int .i64 t8), (33, .bool (t31 != t33))] (by kernel_rfl) (by kernel_rfl) ?_
        exact hj42 (t31 != t33) w34 h (h36.pick [0, 1, 2] (by decide))
    · skip
      refine RunsI.fix 15 false hc9 (by kernel_rfl) (by kernel_rfl) ?_
      refine RunsI.cond false 30 (by kernel_rfl) ?_
      refine RunsI.go 1 [.c 43] (by kernel_rfl) ?_
      refine RunsI.only [0] [(0, .slice pA0 p0.length pc0)] (by kernel_rfl) (by kernel_rfl) ?_
      exact hk0 w (Option.some.inj h).symm (hH.pick [0, 1, 2] (by decide))
def charabanclaw10_TimesAll_4.f (K : Nat) (p0 : List Int) (p1 : Int) : Option Bool := (charabanclaw10_awake_8.f K).bind fun t5 => cond (!t5) (some false) (cond (decide ((p0.length : Int) > 300)) (some true) ((charabanclaw10_TimesAll_4.l0 K p0 p1 K 0).bind (fun x44 => Lp.elim x44 (fun _ => some false) (fun _ => (times_All_13.f K p0).bind fun t54 => (charabancref10_All_14.f K p0).bind fun t59 => cond (t54 == t59) ((times_Table_15.f K).bind fun t65 => (charabancref10_Table_16.f K).bind fun t70 => cond (Nat.beq t65.length 256 && Nat.beq t70.length 256) (some (t65 == t70)) none) (some false)))))
set_option maxRecDepth 100000 in
theorem charabanclaw10_TimesAll_4_ok (K : Nat) (M0 : Nat → Prop) (w0 : World) (pA0 : Option Addr) (pc0 : Nat) (p0 : List Int) (p1 : Int) (ho : ∀ b, M0 b → b < w0.heap.size) (hs0 : Sl (Rp.int .u8) w0 M0 (.slice pA0 p0.length pc0) p0) (hG0 : (gl 0 (tab_0.flatMap en_0)).ok w0 M0) (hG1 : (gl 1 (tab_1.flatMap en_1)).ok w0 M0) {r : Bool} (h : charabanclaw10_TimesAll_4.f K p0 p1 = some r) :
    Calls Tryd.prog 4 #[.slice pA0 p0.length pc0, .int .i64 p1] w0 (charabanclaw10_TimesAll_4.post M0 w0 r) := by
  unfold charabanclaw10_TimesAll_4.f at h
  have h0 : Holds M0 w0 w0 [] := Holds.start ho
  have h00 := h0.addSl (Rp.int .u8) (.slice pA0 p0.length pc0) p0 (hs0.mono (fun _ _ hm => hm.elim id (fun hm => absurd hm (by simp [mines, sl]))))
  have h0g0 := h00.add (gl 0 (tab_0.flatMap en_0)) rfl ⟨hG0.1, fun hm => hG0.2.1 (hm.elim id (fun hm => absurd hm (by simp [mines, sl, gl]))), hG0.2.2⟩
  have h0g1 := h0g0.add (gl 1 (tab_1.flatMap en_1)) rfl ⟨hG1.1, fun hm => hG1.2.1 (hm.elim id (fun hm => absurd hm (by simp [mines, sl, gl]))), hG1.2.2⟩
  have h0 : Holds M0 w0 w0 [sl (Rp.int .u8) (.slice pA0 p0.length pc0) p0, gl 0 (tab_0.flatMap en_0), gl 1 (tab_1.flatMap en_1)] := h0g1
  refine calls_of F4 rfl [.slice pA0 p0.length pc0, .int .i64 p1] (by kernel_rfl) ?_
  refine RunsI.go 1 [.c 1, .c 2] (by kernel_rfl) ?_
  refine RunsI.region (by kernel_rfl) ?_
  refine RegI.pure 1 [0, 1] [(0, .slice pA0 p0.length pc0), (1, .int .i64 p1)] (by kernel_rfl) ?_
  refine RegI.done (by kernel_rfl) ?_
  refine RunsI.go 1 [.c 3, .c 4] (by kernel_rfl) ?_
  refine RunsI.region (by kernel_rfl) ?_
  obtain ⟨t5, hg4, h⟩ := of_bind h
  refine RegI.op (by kernel_rfl) (OpE.call 8 (by kernel_rfl) 8 #[] (by kernel_rfl) ((charabanclaw10_awake_8_ok K _ w0  h0.old' (h0.get 1 rfl) (h0.get 2 rfl) hg4).mono ?_))
  rintro _ w1 ⟨rfl, hb2⟩
  refine ⟨_, rfl, ?_⟩
  have h3 := h0.call hb2
  refine RegI.pure 1 [0, 1, 5] [(0, .slice pA0 p0.length pc0), (1, .int .i64 p1), (5, .bool t5)] (by kernel_rfl) ?_
  refine RegI.done (by kernel_rfl) ?_
  refine RunsI.go 2 [.c 6, .c 7, .c 12] (by kernel_rfl) ?_
  refine RunsI.region (by kernel_rfl) ?_
  refine RegI.pure 2 [0, 1, 10] [(0, .slice pA0 p0.length pc0), (1, .int .i64 p1), (10, .bool (!t5))] (by kernel_rfl) ?_
  refine RegI.done (by kernel_rfl) ?_
  rcases of_cond h with ⟨hc6, h⟩ | ⟨hc6, h⟩
  · skip
    refine RunsI.fix 10 true hc6 (by kernel_rfl) (by kernel_rfl) ?_
    refine RunsI.cond true 8 (by kernel_rfl) ?_
    refine RunsI.go 1 [.c 9, .c 10, .c 12] (by kernel_rfl) ?_
    refine RunsI.region (by kernel_rfl) ?_
    refine RegI.pure 1 [4] [(4, .bool false)] (by kernel_rfl) ?_
    refine RegI.done (by kernel_rfl) ?_
    refine RunsI.ret (.bool false) (by kernel_rfl) (by kernel_rfl) ?_
    obtain rfl := Option.some.inj h
    exact ⟨rfl, h3.below⟩
  · skip
    refine RunsI.fix 10 false hc6 (by kernel_rfl) (by kernel_rfl) ?_
    refine RunsI.cond false 11 (by kernel_rfl) ?_
    refine RunsI.go 1 [.c 12] (by kernel_rfl) ?_
    refine RunsI.go 2 [.c 14, .c 15, .c 20] (by kernel_rfl) ?_
    refine RunsI.region (by kernel_rfl) ?_
    refine RegI.pure 3 [0, 1, 13] [(0, .slice pA0 p0.length pc0), (1, .int .i64 p1), (13, .bool (decide ((p0.length : Int) > 300)))] (by kernel_rfl) ?_
    refine RegI.done (by kernel_rfl) ?_
    rcases of_cond h with ⟨hc7, h⟩ | ⟨hc7, h⟩
    · skip
      refine RunsI.fix 13 true hc7 (by kernel_rfl) (by kernel_rfl) ?_
      refine RunsI.cond true 16 (by kernel_rfl) ?_
      refine RunsI.go 1 [.c 17, .c 18, .c 20] (by kernel_rfl) ?_
      refine RunsI.region (by kernel_rfl) ?_
      refine RegI.pure 1 [4] [(4, .bool true)] (by kernel_rfl) ?_
      refine RegI.done (by kernel_rfl) ?_
      refine RunsI.ret (.bool true) (by kernel_rfl) (by kernel_rfl) ?_
      obtain rfl := Option.some.inj h
      exact ⟨rfl, h3.below⟩
    · skip
      refine RunsI.fix 13 false hc7 (by kernel_rfl) (by kernel_rfl) ?_
      refine RunsI.cond false 19 (by kernel_rfl) ?_
      refine RunsI.go 1 [.c 20] (by kernel_rfl) ?_
      refine RunsI.go 2 [.c 22, .c 23, .c 43] (by kernel_rfl) ?_
      refine RunsI.region (by kernel_rfl) ?_
      refine RegI.pure 1 [0, 1, 6] [(0, .slice pA0 p0.length pc0), (1, .int .i64 p1), (6, .int .i64 0)] (by kernel_rfl) ?_
      refine RegI.done (by kernel_rfl) ?_
      refine RunsI.go 2 [.c 25, .lp 25, .blk 0, .c 43] (by kernel_rfl) ?_
      obtain ⟨x44, hx45, h⟩ := of_bind h
      refine RunsI.only [0, 1, 6] [(0, .slice pA0 p0.length pc0), (1, .int .i64 p1), (6, .int .i64 0)] (by kernel_rfl) (by kernel_rfl) ?_
      refine charabanclaw10_TimesAll_4.l0_ok K M0 w0 pA0 pc0 p0 p1 _ x44 ?_ ?_ K 0 w1 hx45 (h3.pick [0, 1, 2] (by decide))
      · intro w47 hq72 h46
        (try rw [hq72] at h)
        dsimp only [Lp.elim] at h
        refine RunsI.go 1 [.c 44, .c 45] (by kernel_rfl) ?_
        refine RunsI.region (by kernel_rfl) ?_
        refine RegI.pure 1 [0, 34] [(0, .slice pA0 p0.length pc0), (34, .slice pA0 p0.length pc0)] (by kernel_rfl) ?_
        obtain ⟨t54, hg53, h⟩ := of_bind h
        refine RegI.op (by kernel_rfl) (OpE.call 35 (by kernel_rfl) 13 #[.slice pA0 p0.length pc0] (by kernel_rfl) ((times_All_13_ok K _ w47  pA0 pc0 p0 h46.old' (h46.get 0 rfl) (h46.get 1 rfl) (h46.get 2 rfl) hg53).mono ?_))
        rintro _ w50 ⟨rfl, hb51⟩
        refine ⟨_, rfl, ?_⟩
        have h52 := h46.call hb51
        refine RegI.pure 1 [35, 36] [(35, .int .i64 t54), (36, .slice pA0 p0.length pc0)] (by kernel_rfl) ?_
        obtain ⟨t59, hg58, h⟩ := of_bind h
        refine RegI.op (by kernel_rfl) (OpE.call 37 (by kernel_rfl) 14 #[.slice pA0 p0.length pc0] (by kernel_rfl) ((charabancref10_All_14_ok K _ w50  pA0 pc0 p0 h52.old' (h52.get 0 rfl) hg58).mono ?_))
        rintro _ w55 ⟨rfl, hb56⟩
        refine ⟨_, rfl, ?_⟩
        have h57 := h52.call hb56
        refine RegI.pure 2 [39] [(39, .bool (t54 == t59))] (by kernel_rfl) ?_
        rcases of_cond h with ⟨hc60, h⟩ | ⟨hc60, h⟩
        · skip
          refine RegI.fix 39 true hc60 (by kernel_rfl) (by kernel_rfl) ?_
          obtain ⟨t65, hg64, h⟩ := of_bind h
          refine RegI.op (by kernel_rfl) (OpE.call 40 (by kernel_rfl) 15 #[] (by kernel_rfl) ((times_Table_15_ok K _ w55  h57.old' (h57.get 1 rfl) hg64).mono ?_))
          rintro _ w61 ⟨rfl, hb62⟩
          refine ⟨_, rfl, ?_⟩
          have h63 := h57.call hb62
          obtain ⟨t70, hg69, h⟩ := of_bind h
          refine RegI.op (by kernel_rfl) (OpE.call 41 (by kernel_rfl) 16 #[] (by kernel_rfl) ((charabancref10_Table_16_ok K _ w61  h63.old' hg69).mono ?_))
          rintro _ w66 ⟨rfl, hb67⟩
          refine ⟨_, rfl, ?_⟩
          have h68 := h63.call hb67
          obtain ⟨hc71, h⟩ := of_cond0 h
          refine RegI.op (by kernel_rfl) (OpE.run 42 (by kernel_rfl) (run_eqArr (T := 31) (E := 3) (len := 256) (kk := .i64) (q := .i64) (neg := false) (xs := t65) (ys := t70) (by kernel_rfl) (by kernel_rfl) (by kernel_rfl) (by kernel_rfl) (by kernel_rfl) (by kernel_rfl) (and_l hc71) (and_r hc71)) ?_)
          refine RegI.pure 2 [4] [(4, .bool (t65 == t70))] (by kernel_rfl) ?_
          refine RegI.done (by kernel_rfl) ?_
          refine RunsI.ret (.bool (t65 == t70)) (by kernel_rfl) (by kernel_rfl) ?_
          obtain rfl := Option.some.inj h
          exact ⟨rfl, h68.below⟩
        · skip
          refine RegI.fix 39 false hc60 (by kernel_rfl) (by kernel_rfl) ?_
          refine RegI.pure 5 [4] [(4, .bool false)] (by kernel_rfl) ?_
          refine RegI.done (by kernel_rfl) ?_
          refine RunsI.ret (.bool false) (by kernel_rfl) (by kernel_rfl) ?_
          obtain rfl := Option.some.inj h
          exact ⟨rfl, h57.below⟩
      · intro w49 hq73 h48
        (try rw [hq73] at h)
        dsimp only [Lp.elim] at h
        obtain rfl := Option.some.inj h
        exact ⟨rfl, h48.below⟩
end
end Go.Proofs.YtmcdkmakjjlcnaaDoor.Tim
