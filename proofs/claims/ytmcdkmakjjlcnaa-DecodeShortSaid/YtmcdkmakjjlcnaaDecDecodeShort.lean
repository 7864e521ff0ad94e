/- The statement's function DecodeShort as a plain Lean function; written by wip/eng.py. -/
import Derived.Test.YtmcdkmakjjlcnaaDec3
set_option linter.unusedVariables false
set_option linter.unusedSimpArgs false
set_option maxHeartbeats 4000000
namespace Go.Proofs.Ytmcdkmakjjlcnaa.Dec
open Go.RowKit Go.Eng
noncomputable def B6 : Code := (Try.f6.body).getD .skip
noncomputable def F6 : Fun Try.prog := ⟨6, Try.f6, B6, 149, Try.func6, by kernel_rfl, by kernel_rfl, [], none⟩

/-! ### charabanc/charabanclaw08.DecodeShort (function 6) -/
section
def charabanclaw08_DecodeShort_6.post (M0 : Nat → Prop) (w0 : World) (r : Bool) : Ending → World → Prop := fun e w => e = .returned (.bool r) ∧ Below w0.heap.size w0 w
def charabanclaw08_DecodeShort_6.l0 (K : Nat) (p0 : List Int) (p1 : List Int) (t82 : Int) (t83 : Int) (t84 : Int) (t85 : Int) (t86 : Int) (t87 : Int) (t90 : List Int) : Nat → Int → Option (Lp Unit Unit)
  | 0, _ => none
  | k + 1, t91 => cond (decide (t91 < t86)) (cond (cutR 0 t91 p0.length) ((decode_Next_15.f K (cutL p0 0 t91)).bind fun yt101 => cond yt101.2.2.2.2.2.2 (some (Lp.ret ())) (charabanclaw08_DecodeShort_6.l0 K p0 p1 t82 t83 t84 t85 t86 t87 t90 k (IntKind.wrap .i64 (t91 + 1)))) none) (some (Lp.go ()))
set_option maxRecDepth 100000 in
theorem charabanclaw08_DecodeShort_6.l0_ok (K : Nat) (M0 : Nat → Prop) (w0 : World) (pA0 : Option Addr) (pc0 : Nat) (pA1 : Option Addr) (pc1 : Nat) (p0 : List Int) (p1 : List Int) (t82 : Int) (t83 : Int) (t84 : Int) (t85 : Int) (t86 : Int) (t87 : Int) (t90 : List Int) (b81 : Nat) (A88 : Option Addr) (c89 : Nat) (R : Ending → World → Prop) (x : Lp Unit Unit) (hk0 : ∀ (w1 : World), x = Lp.go () → Holds M0 w0 w1 [sl (Rp.int .u8) (.slice pA0 p0.length pc0) p0, box b81 30 [.int .i64 t82, .int .u8 t83, .int .u8 t84, .int .u16 t85, .int .i64 t86, .int .i64 t87], own (Rp.int .u8) 5 (.slice A88 t90.length c89) t90] → RunsI F6 [.c 69] [(0, .slice pA0 p0.length pc0), (6, .pointer (some ⟨b81, 0, none⟩)), (8, .slice A88 t90.length c89)] w1 R) (hk1 : ∀ (w1 : World), x = Lp.ret () → Holds M0 w0 w1 [] → R (.returned (.bool false)) w1) :
    ∀ (k : Nat) (t91 : Int) (w : World), charabanclaw08_DecodeShort_6.l0 K p0 p1 t82 t83 t84 t85 t86 t87 t90 k t91 = some x → Holds M0 w0 w [sl (Rp.int .u8) (.slice pA0 p0.length pc0) p0, box b81 30 [.int .i64 t82, .int .u8 t83, .int .u8 t84, .int .u16 t85, .int .i64 t86, .int .i64 t87], own (Rp.int .u8) 5 (.slice A88 t90.length c89) t90] → RunsI F6 [.c 51, .lp 51, .blk 0, .c 69] [(0, .slice pA0 p0.length pc0), (6, .pointer (some ⟨b81, 0, none⟩)), (8, .slice A88 t90.length c89), (11, .int .i64 t91)] w R := by
  intro k
  induction k with
  | zero => intro t91 w h hH; exact absurd h (by simp [charabanclaw08_DecodeShort_6.l0])
  | succ k ih =>
    intro t91 w h hH
    rw [charabanclaw08_DecodeShort_6.l0.eq_2] at h
    refine RunsI.go 1 [.c 52, .c 57, .lp 51, .blk 0, .c 69] (by kernel_rfl) ?_
    refine RunsI.go 1 [.c 53, .c 54, .c 57, .lp 51, .blk 0, .c 69] (by kernel_rfl) ?_
    refine RunsI.region (by kernel_rfl) ?_
    refine RegI.pure 2 [0, 6, 8, 11, 70, 71] [(0, .slice pA0 p0.length pc0), (6, .pointer (some ⟨b81, 0, none⟩)), (8, .slice A88 t90.length c89), (11, .int .i64 t91), (70, .int .i64 t91), (71, .pointer (some ⟨b81, 4, none⟩))] (by kernel_rfl) ?_
    refine RegI.op (by kernel_rfl) (OpE.loadBox 72 1 3 b81 4 (.int .i64 t86) hH (by kernel_rfl) (by kernel_rfl) rfl (by kernel_rfl) ?_)
    refine RegI.pure 1 [0, 6, 8, 11, 73] [(0, .slice pA0 p0.length pc0), (6, .pointer (some ⟨b81, 0, none⟩)), (8, .slice A88 t90.length c89), (11, .int .i64 t91), (73, .bool (decide (t91 < t86)))] (by kernel_rfl) ?_
    refine RegI.done (by kernel_rfl) ?_
    rcases of_cond h with ⟨hc92, h⟩ | ⟨hc92, h⟩
    · skip
      refine RunsI.fix 73 true hc92 (by kernel_rfl) (by kernel_rfl) ?_
      refine RunsI.cond true 55 (by kernel_rfl) ?_
      refine RunsI.go 1 [.c 57, .lp 51, .blk 0, .c 69] (by kernel_rfl) ?_
      refine RunsI.go 3 [.c 60, .c 61, .blk 1, .c 68, .lp 51, .blk 0, .c 69] (by kernel_rfl) ?_
      refine RunsI.region (by kernel_rfl) ?_
      refine RegI.pure 2 [0, 6, 8, 11, 77, 78] [(0, .slice pA0 p0.length pc0), (6, .pointer (some ⟨b81, 0, none⟩)), (8, .slice A88 t90.length c89), (11, .int .i64 t91), (77, .slice pA0 p0.length pc0), (78, .int .i64 t91)] (by kernel_rfl) ?_
      obtain ⟨hc93, h⟩ := of_cond0 h
      refine RegI.op (by kernel_rfl) (OpE.cutSl 79 0 27 none (some t91) hH (by kernel_rfl) rfl (by kernel_rfl) (by kernel_rfl) hc93 ?_)
      intro A94 c95 h96
      obtain ⟨⟨t101, t102, t103, t104, t105, t106, t107⟩, hg100, h⟩ := of_bind h
      dsimp only at h
      refine RegI.op (by kernel_rfl) (OpE.call 80 (by kernel_rfl) 15 #[.slice A94 ((cutL p0 0 t91).length) c95] (by kernel_rfl) ((decode_Next_15_ok K _ w  A94 c95 (cutL p0 0 t91) h96.old' (h96.get 3 rfl) hg100).mono ?_))
      rintro _ w97 ⟨rfl, hb98⟩
      refine ⟨_, rfl, ?_⟩
      have h99 := h96.call hb98
      refine RegI.pure 3 [0, 6, 8, 11, 81, 82] [(0, .slice pA0 p0.length pc0), (6, .pointer (some ⟨b81, 0, none⟩)), (8, .slice A88 t90.length c89), (11, .int .i64 t91), (81, .agg #[.int .i64 t101, .int .u8 t102, .int .u8 t103, .int .u16 t104, .int .i64 t105, .int .i64 t106]), (82, .bool t107)] (by kernel_rfl) ?_
      refine RegI.op (by kernel_rfl) (OpE.box 12 30 [.int .i64 0, .int .u8 0, .int .u8 0, .int .u16 0, .int .i64 0, .int .i64 0] h99 (by kernel_rfl) (by kernel_rfl) ?_)
      intro w108 b109 h110 hb111 hn112
      refine RegI.op (by kernel_rfl) (OpE.storeBox 4 30 b109 0 (.agg #[.int .i64 t101, .int .u8 t102, .int .u8 t103, .int .u16 t104, .int .i64 t105, .int .i64 t106]) [.int .i64 t101, .int .u8 t102, .int .u8 t103, .int .u16 t104, .int .i64 t105, .int .i64 t106] h110 (by kernel_rfl) (by kernel_rfl) rfl (by kernel_rfl) (by kernel_rfl) (by kernel_rfl) ?_)
      intro w113 h114 hk115
      refine RegI.pure 1 [0, 6, 8, 11, 13] [(0, .slice pA0 p0.length pc0), (6, .pointer (some ⟨b81, 0, none⟩)), (8, .slice A88 t90.length c89), (11, .int .i64 t91), (13, .bool t107)] (by kernel_rfl) ?_
      refine RegI.done (by kernel_rfl) ?_
      refine RunsI.go 1 [.c 62, .c 63, .blk 1, .c 68, .lp 51, .blk 0, .c 69] (by kernel_rfl) ?_
      refine RunsI.region (by kernel_rfl) ?_
      refine RegI.pure 1 [0, 6, 8, 11, 83] [(0, .slice pA0 p0.length pc0), (6, .pointer (some ⟨b81, 0, none⟩)), (8, .slice A88 t90.length c89), (11, .int .i64 t91), (83, .bool t107)] (by kernel_rfl) ?_
      refine RegI.done (by kernel_rfl) ?_
      rcases of_cond h with ⟨hc116, h⟩ | ⟨hc116, h⟩
      · skip
        refine RunsI.fix 83 true hc116 (by kernel_rfl) (by kernel_rfl) ?_
        refine RunsI.cond true 64 (by kernel_rfl) ?_
        refine RunsI.go 1 [.c 65, .c 66, .blk 1, .c 68, .lp 51, .blk 0, .c 69] (by kernel_rfl) ?_
        refine RunsI.region (by kernel_rfl) ?_
        refine RegI.pure 1 [4] [(4, .bool false)] (by kernel_rfl) ?_
        refine RegI.done (by kernel_rfl) ?_
        refine RunsI.ret (.bool false) (by kernel_rfl) (by kernel_rfl) ?_
        exact hk1 w113 (Option.some.inj h).symm (h114.pick [] (by decide))
      · skip
        refine RunsI.fix 83 false hc116 (by kernel_rfl) (by kernel_rfl) ?_
        refine RunsI.cond false 67 (by kernel_rfl) ?_
        refine RunsI.go 1 [.blk 1, .c 68, .lp 51, .blk 0, .c 69] (by kernel_rfl) ?_
        refine RunsI.go 1 [.c 68, .lp 51, .blk 0, .c 69] (by kernel_rfl) ?_
        refine RunsI.region (by kernel_rfl) ?_
        refine RegI.pure 3 [0, 6, 8, 11] [(0, .slice pA0 p0.length pc0), (6, .pointer (some ⟨b81, 0, none⟩)), (8, .slice A88 t90.length c89), (11, .int .i64 (IntKind.wrap .i64 (t91 + 1)))] (by kernel_rfl) ?_
        refine RegI.done (by kernel_rfl) ?_
        refine RunsI.go 1 [.c 51, .lp 51, .blk 0, .c 69] (by kernel_rfl) ?_
        refine RunsI.only [0, 6, 8, 11] [(0, .slice pA0 p0.length pc0), (6, .pointer (some ⟨b81, 0, none⟩)), (8, .slice A88 t90.length c89), (11, .int .i64 (IntKind.wrap .i64 (t91 + 1)))] (by kernel_rfl) (by kernel_rfl) ?_
        exact ih (IntKind.wrap .i64 (t91 + 1)) w113 h (h114.pick [0, 1, 2] (by decide))
    · skip
      refine RunsI.fix 73 false hc92 (by kernel_rfl) (by kernel_rfl) ?_
      refine RunsI.cond false 56 (by kernel_rfl) ?_
      refine RunsI.go 1 [.c 69] (by kernel_rfl) ?_
      refine RunsI.only [0, 6, 8] [(0, .slice pA0 p0.length pc0), (6, .pointer (some ⟨b81, 0, none⟩)), (8, .slice A88 t90.length c89)] (by kernel_rfl) (by kernel_rfl) ?_
      exact hk0 w (Option.some.inj h).symm (hH.pick [0, 1, 2] (by decide))
def charabanclaw08_DecodeShort_6.f (K : Nat) (p0 : List Int) (p1 : List Int) : Option Bool := (charabanclaw08_awake_8.f K).bind fun t5 => cond (!t5) (some false) (Let (fun (t8 : Bool) => cond t8 (some true) ((decode_Next_15.f K p0).bind fun yt19 => cond (!yt19.2.2.2.2.2.2) (some ((yt19.1 == 0) && ((yt19.2.1 == 0) && ((yt19.2.2.1 == 0) && ((yt19.2.2.2.1 == 0) && ((yt19.2.2.2.2.1 == 0) && ((yt19.2.2.2.2.2.1 == 0) && true))))))) (cond (cutR 0 yt19.2.2.2.2.1 p0.length) (cond (mayBe (([] : List Int).length + (cutL p0 0 yt19.2.2.2.2.1).length) 1) (cond (mayBe ((([] : List Int) ++ (cutL p0 0 yt19.2.2.2.2.1)).length + p1.length) 1) ((decode_Next_15.f K ((([] : List Int) ++ (cutL p0 0 yt19.2.2.2.2.1)) ++ p1)).bind fun yt56 => Let (fun (t74 : Bool) => cond t74 (some false) ((charabanclaw08_DecodeShort_6.l0 K p0 p1 yt19.1 yt19.2.1 yt19.2.2.1 yt19.2.2.2.1 yt19.2.2.2.2.1 yt19.2.2.2.2.2.1 ((([] : List Int) ++ (cutL p0 0 yt19.2.2.2.2.1)) ++ p1) K 0).bind (fun x117 => Lp.elim x117 (fun _ => some false) (fun _ => cond (inR 0 p0.length) (Let (fun (t135 : Bool) => cond t135 (some (yt19.2.2.2.2.2.1 == 0)) (cond (mayBe (([221] : List Int).length + ((([] : List Int) ++ (cutL p0 0 yt19.2.2.2.2.1)) ++ p1).length) 1) ((decode_Next_15.f K (([221] : List Int) ++ ((([] : List Int) ++ (cutL p0 0 yt19.2.2.2.2.1)) ++ p1))).bind fun yt158 => cond yt158.2.2.2.2.2.2 (cond (yt158.2.2.2.2.2.1 == (IntKind.wrap .i64 (yt19.2.2.2.2.2.1 + 1))) (cond (yt158.2.2.2.2.1 == (IntKind.wrap .i64 (yt19.2.2.2.2.1 + 1))) (cond (yt158.1 == yt19.1) (cond (yt158.2.1 == yt19.2.1) (cond (yt158.2.2.1 == yt19.2.2.1) (some (yt158.2.2.2.1 == yt19.2.2.2.1)) (some false)) (some false)) (some false)) (some false)) (some false)) (some false)) none)) (fun j138 => cond ((rdD p0 0) != 221) (j138 ((rdD p0 0) != 253)) (j138 false))) none)))) (fun j77 => cond (!yt56.2.2.2.2.2.2) (j77 true) (cond (!((yt56.1 == yt19.1) && ((yt56.2.1 == yt19.2.1) && ((yt56.2.2.1 == yt19.2.2.1) && ((yt56.2.2.2.1 == yt19.2.2.2.1) && ((yt56.2.2.2.2.1 == yt19.2.2.2.2.1) && ((yt56.2.2.2.2.2.1 == yt19.2.2.2.2.2.1) && true))))))) (j77 true) (cond (decide (yt19.2.2.2.2.1 < 1)) (j77 true) (j77 (decide (yt19.2.2.2.2.1 > (p0.length : Int)))))))) none) none) none))) (fun j11 => cond (decide ((p0.length : Int) > 100)) (j11 true) (j11 (decide ((p1.length : Int) > 20)))))
set_option maxRecDepth 100000 in
theorem charabanclaw08_DecodeShort_6_ok (K : Nat) (M0 : Nat → Prop) (w0 : World) (pA0 : Option Addr) (pc0 : Nat) (pA1 : Option Addr) (pc1 : Nat) (p0 : List Int) (p1 : List Int) (ho : ∀ b, M0 b → b < w0.heap.size) (hs0 : Sl (Rp.int .u8) w0 M0 (.slice pA0 p0.length pc0) p0) (hs1 : Sl (Rp.int .u8) w0 M0 (.slice pA1 p1.length pc1) p1) {r : Bool} (h : charabanclaw08_DecodeShort_6.f K p0 p1 = some r) :
    Calls Try.prog 6 #[.slice pA0 p0.length pc0, .slice pA1 p1.length pc1] w0 (charabanclaw08_DecodeShort_6.post M0 w0 r) := by
  unfold charabanclaw08_DecodeShort_6.f at h
  have h0 : Holds M0 w0 w0 [] := Holds.start ho
  have h00 := h0.addSl (Rp.int .u8) (.slice pA0 p0.length pc0) p0 (hs0.mono (fun _ _ hm => hm.elim id (fun hm => absurd hm (by simp [mines, sl]))))
  have h01 := h00.addSl (Rp.int .u8) (.slice pA1 p1.length pc1) p1 (hs1.mono (fun _ _ hm => hm.elim id (fun hm => absurd hm (by simp [mines, sl]))))
  have h0 : Holds M0 w0 w0 [sl (Rp.int .u8) (.slice pA0 p0.length pc0) p0, sl (Rp.int .u8) (.slice pA1 p1.length pc1) p1] := h01
  refine calls_of F6 rfl [.slice pA0 p0.length pc0, .slice pA1 p1.length pc1] (by kernel_rfl) ?_
  refine RunsI.go 1 [.c 1, .c 2] (by kernel_rfl) ?_
  refine RunsI.region (by kernel_rfl) ?_
  refine RegI.pure 1 [0, 1] [(0, .slice pA0 p0.length pc0), (1, .slice pA1 p1.length pc1)] (by kernel_rfl) ?_
  refine RegI.done (by kernel_rfl) ?_
  refine RunsI.go 1 [.c 3, .c 4] (by kernel_rfl) ?_
  refine RunsI.region (by kernel_rfl) ?_
  obtain ⟨t5, hg4, h⟩ := of_bind h
  refine RegI.op (by kernel_rfl) (OpE.call 16 (by kernel_rfl) 8 #[] (by kernel_rfl) ((charabanclaw08_awake_8_ok K _ w0  h0.old' hg4).mono ?_))
  rintro _ w1 ⟨rfl, hb2⟩
  refine ⟨_, rfl, ?_⟩
  have h3 := h0.call hb2
  refine RegI.pure 1 [0, 1, 5] [(0, .slice pA0 p0.length pc0), (1, .slice pA1 p1.length pc1), (5, .bool t5)] (by kernel_rfl) ?_
  refine RegI.done (by kernel_rfl) ?_
  refine RunsI.go 2 [.c 6, .c 7, .c 12] (by kernel_rfl) ?_
  refine RunsI.region (by kernel_rfl) ?_
  refine RegI.pure 2 [0, 1, 18] [(0, .slice pA0 p0.length pc0), (1, .slice pA1 p1.length pc1), (18, .bool (!t5))] (by kernel_rfl) ?_
  refine RegI.done (by kernel_rfl) ?_
  rcases of_cond h with ⟨hc6, h⟩ | ⟨hc6, h⟩
  · skip
    refine RunsI.fix 18 true hc6 (by kernel_rfl) (by kernel_rfl) ?_
    refine RunsI.cond true 8 (by kernel_rfl) ?_
    refine RunsI.go 1 [.c 9, .c 10, .c 12] (by kernel_rfl) ?_
    refine RunsI.region (by kernel_rfl) ?_
    refine RegI.pure 1 [4] [(4, .bool false)] (by kernel_rfl) ?_
    refine RegI.done (by kernel_rfl) ?_
    refine RunsI.ret (.bool false) (by kernel_rfl) (by kernel_rfl) ?_
    obtain rfl := Option.some.inj h
    exact ⟨rfl, h3.below⟩
  · skip
    refine RunsI.fix 18 false hc6 (by kernel_rfl) (by kernel_rfl) ?_
    refine RunsI.cond false 11 (by kernel_rfl) ?_
    refine RunsI.go 1 [.c 12] (by kernel_rfl) ?_
    refine RunsI.go 2 [.c 14, .c 15, .c 20] (by kernel_rfl) ?_
    refine RunsI.region (by kernel_rfl) ?_
    refine RegI.pure 4 [0, 1, 22] [(0, .slice pA0 p0.length pc0), (1, .slice pA1 p1.length pc1), (22, .bool (decide ((p0.length : Int) > 100)))] (by kernel_rfl) ?_
    obtain ⟨j11, hJ12, h⟩ := of_let h
    have hj13 : ∀ (t8 : Bool) (w10 : World), j11 t8 = some r → Holds M0 w0 w10 [sl (Rp.int .u8) (.slice pA0 p0.length pc0) p0, sl (Rp.int .u8) (.slice pA1 p1.length pc1) p1] → RegI F6 14 [.c 15, .c 20] 8 [(0, .slice pA0 p0.length pc0), (1, .slice pA1 p1.length pc1), (26, .bool t8)] w10 (charabanclaw08_DecodeShort_6.post M0 w0 r) := by
      intro t8 w10 h h9
      rw [hJ12] at h
      clear hJ12
      dsimp only at h
      refine RegI.done (by kernel_rfl) ?_
      rcases of_cond h with ⟨hc14, h⟩ | ⟨hc14, h⟩
      · skip
        refine RunsI.fix 26 true hc14 (by kernel_rfl) (by kernel_rfl) ?_
        refine RunsI.cond true 16 (by kernel_rfl) ?_
        refine RunsI.go 1 [.c 17, .c 18, .c 20] (by kernel_rfl) ?_
        refine RunsI.region (by kernel_rfl) ?_
        refine RegI.pure 1 [4] [(4, .bool true)] (by kernel_rfl) ?_
        refine RegI.done (by kernel_rfl) ?_
        refine RunsI.ret (.bool true) (by kernel_rfl) (by kernel_rfl) ?_
        obtain rfl := Option.some.inj h
        exact ⟨rfl, h9.below⟩
      · skip
        refine RunsI.fix 26 false hc14 (by kernel_rfl) (by kernel_rfl) ?_
        refine RunsI.cond false 19 (by kernel_rfl) ?_
        refine RunsI.go 1 [.c 20] (by kernel_rfl) ?_
        refine RunsI.go 1 [.c 21, .c 22] (by kernel_rfl) ?_
        refine RunsI.region (by kernel_rfl) ?_
        refine RegI.pure 1 [0, 1, 28] [(0, .slice pA0 p0.length pc0), (1, .slice pA1 p1.length pc1), (28, .slice pA0 p0.length pc0)] (by kernel_rfl) ?_
        obtain ⟨⟨t19, t20, t21, t22, t23, t24, t25⟩, hg18, h⟩ := of_bind h
        dsimp only at h
        refine RegI.op (by kernel_rfl) (OpE.call 29 (by kernel_rfl) 15 #[.slice pA0 p0.length pc0] (by kernel_rfl) ((decode_Next_15_ok K _ w10  pA0 pc0 p0 h9.old' (h9.get 0 rfl) hg18).mono ?_))
        rintro _ w15 ⟨rfl, hb16⟩
        refine ⟨_, rfl, ?_⟩
        have h17 := h9.call hb16
        refine RegI.pure 3 [0, 1, 30, 31] [(0, .slice pA0 p0.length pc0), (1, .slice pA1 p1.length pc1), (30, .agg #[.int .i64 t19, .int .u8 t20, .int .u8 t21, .int .u16 t22, .int .i64 t23, .int .i64 t24]), (31, .bool t25)] (by kernel_rfl) ?_
        refine RegI.op (by kernel_rfl) (OpE.box 6 30 [.int .i64 0, .int .u8 0, .int .u8 0, .int .u16 0, .int .i64 0, .int .i64 0] h17 (by kernel_rfl) (by kernel_rfl) ?_)
        intro w26 b27 h28 hb29 hn30
        refine RegI.op (by kernel_rfl) (OpE.storeBox 2 30 b27 0 (.agg #[.int .i64 t19, .int .u8 t20, .int .u8 t21, .int .u16 t22, .int .i64 t23, .int .i64 t24]) [.int .i64 t19, .int .u8 t20, .int .u8 t21, .int .u16 t22, .int .i64 t23, .int .i64 t24] h28 (by kernel_rfl) (by kernel_rfl) rfl (by kernel_rfl) (by kernel_rfl) (by kernel_rfl) ?_)
        intro w31 h32 hk33
        refine RegI.pure 1 [0, 1, 6, 7] [(0, .slice pA0 p0.length pc0), (1, .slice pA1 p1.length pc1), (6, .pointer (some ⟨b27, 0, none⟩)), (7, .bool t25)] (by kernel_rfl) ?_
        refine RegI.done (by kernel_rfl) ?_
        refine RunsI.go 2 [.c 24, .c 25, .c 30] (by kernel_rfl) ?_
        refine RunsI.region (by kernel_rfl) ?_
        refine RegI.pure 2 [0, 1, 6, 33] [(0, .slice pA0 p0.length pc0), (1, .slice pA1 p1.length pc1), (6, .pointer (some ⟨b27, 0, none⟩)), (33, .bool (!t25))] (by kernel_rfl) ?_
        refine RegI.done (by kernel_rfl) ?_
        rcases of_cond h with ⟨hc34, h⟩ | ⟨hc34, h⟩
        · skip
          refine RunsI.fix 33 true hc34 (by kernel_rfl) (by kernel_rfl) ?_
          refine RunsI.cond true 26 (by kernel_rfl) ?_
          refine RunsI.go 1 [.c 27, .c 28, .c 30] (by kernel_rfl) ?_
          refine RunsI.region (by kernel_rfl) ?_
          refine RegI.op (by kernel_rfl) (OpE.loadBox 34 2 30 b27 0 (.agg #[.int .i64 t19, .int .u8 t20, .int .u8 t21, .int .u16 t22, .int .i64 t23, .int .i64 t24]) h32 (by kernel_rfl) (by kernel_rfl) rfl (by kernel_rfl) ?_)
          refine RegI.pure 1 [34, 35] [(34, .agg #[.int .i64 t19, .int .u8 t20, .int .u8 t21, .int .u16 t22, .int .i64 t23, .int .i64 t24]), (35, .agg #[.int .i64 0, .int .u8 0, .int .u8 0, .int .u16 0, .int .i64 0, .int .i64 0])] (by kernel_rfl) ?_
          refine RegI.op (by kernel_rfl) (OpE.run 36 (by kernel_rfl) (run_eqS (neg := false) (t := 30) (x := .agg #[.int .i64 t19, .int .u8 t20, .int .u8 t21, .int .u16 t22, .int .i64 t23, .int .i64 t24]) (y := .agg #[.int .i64 0, .int .u8 0, .int .u8 0, .int .u16 0, .int .i64 0, .int .i64 0]) (b := ((t19 == 0) && ((t20 == 0) && ((t21 == 0) && ((t22 == 0) && ((t23 == 0) && ((t24 == 0) && true))))))) (by kernel_rfl) (by kernel_rfl) (by kernel_rfl) (by kernel_rfl)) ?_)
          refine RegI.pure 1 [4] [(4, .bool ((t19 == 0) && ((t20 == 0) && ((t21 == 0) && ((t22 == 0) && ((t23 == 0) && ((t24 == 0) && true)))))))] (by kernel_rfl) ?_
          refine RegI.done (by kernel_rfl) ?_
          refine RunsI.ret (.bool ((t19 == 0) && ((t20 == 0) && ((t21 == 0) && ((t22 == 0) && ((t23 == 0) && ((t24 == 0) && true))))))) (by kernel_rfl) (by kernel_rfl) ?_
          obtain rfl := Option.some.inj h
          exact ⟨rfl, h32.below⟩
        · skip
          refine RunsI.fix 33 false hc34 (by kernel_rfl) (by kernel_rfl) ?_
          refine RunsI.cond false 29 (by kernel_rfl) ?_
          refine RunsI.go 1 [.c 30] (by kernel_rfl) ?_
          refine RunsI.go 1 [.c 31, .c 32] (by kernel_rfl) ?_
          refine RunsI.region (by kernel_rfl) ?_
          refine RegI.pure 1 [0, 1, 6, 8] [(0, .slice pA0 p0.length pc0), (1, .slice pA1 p1.length pc1), (6, .pointer (some ⟨b27, 0, none⟩)), (8, .slice none 0 0)] (by kernel_rfl) ?_
          refine RegI.done (by kernel_rfl) ?_
          refine RunsI.go 1 [.c 33, .c 34] (by kernel_rfl) ?_
          refine RunsI.region (by kernel_rfl) ?_
          refine RegI.pure 3 [0, 1, 6, 37, 38, 39] [(0, .slice pA0 p0.length pc0), (1, .slice pA1 p1.length pc1), (6, .pointer (some ⟨b27, 0, none⟩)), (37, .slice none 0 0), (38, .slice pA0 p0.length pc0), (39, .pointer (some ⟨b27, 4, none⟩))] (by kernel_rfl) ?_
          refine RegI.op (by kernel_rfl) (OpE.loadBox 40 2 3 b27 4 (.int .i64 t23) h32 (by kernel_rfl) (by kernel_rfl) rfl (by kernel_rfl) ?_)
          obtain ⟨hc35, h⟩ := of_cond0 h
          refine RegI.op (by kernel_rfl) (OpE.cutSl 41 0 27 none (some t23) h32 (by kernel_rfl) rfl (by kernel_rfl) (by kernel_rfl) hc35 ?_)
          intro A36 c37 h38
          have h39 := h38.addOwnNil (Rp.int .u8) 5
          obtain ⟨hc40, h⟩ := of_cond0 h
          refine RegI.op (by kernel_rfl) (OpE.appendRow 42 4 27 5 1 (ys := (cutL p0 0 t23)) h39 (by kernel_rfl) (by kernel_rfl) (by kernel_rfl) rfl (h39.rdSl 3 rfl) hc40 ?_)
          intro w41 A42 c43 h44 hk45
          refine RegI.pure 1 [0, 1, 6, 8] [(0, .slice pA0 p0.length pc0), (1, .slice pA1 p1.length pc1), (6, .pointer (some ⟨b27, 0, none⟩)), (8, .slice A42 ((([] : List Int) ++ (cutL p0 0 t23)).length) c43)] (by kernel_rfl) ?_
          refine RegI.done (by kernel_rfl) ?_
          refine RunsI.go 1 [.c 35, .c 36] (by kernel_rfl) ?_
          refine RunsI.region (by kernel_rfl) ?_
          refine RegI.pure 2 [0, 6, 43, 44] [(0, .slice pA0 p0.length pc0), (6, .pointer (some ⟨b27, 0, none⟩)), (43, .slice A42 ((([] : List Int) ++ (cutL p0 0 t23)).length) c43), (44, .slice pA1 p1.length pc1)] (by kernel_rfl) ?_
          obtain ⟨hc46, h⟩ := of_cond0 h
          refine RegI.op (by kernel_rfl) (OpE.appendRow 45 4 27 5 1 (ys := p1) h44 (by kernel_rfl) (by kernel_rfl) (by kernel_rfl) rfl (h44.rdSl 1 rfl) hc46 ?_)
          intro w47 A48 c49 h50 hk51
          refine RegI.pure 1 [0, 6, 8] [(0, .slice pA0 p0.length pc0), (6, .pointer (some ⟨b27, 0, none⟩)), (8, .slice A48 (((([] : List Int) ++ (cutL p0 0 t23)) ++ p1).length) c49)] (by kernel_rfl) ?_
          refine RegI.done (by kernel_rfl) ?_
          refine RunsI.go 1 [.c 37, .c 38] (by kernel_rfl) ?_
          refine RunsI.region (by kernel_rfl) ?_
          refine RegI.pure 1 [0, 6, 8, 47] [(0, .slice pA0 p0.length pc0), (6, .pointer (some ⟨b27, 0, none⟩)), (8, .slice A48 (((([] : List Int) ++ (cutL p0 0 t23)) ++ p1).length) c49), (47, .slice A48 (((([] : List Int) ++ (cutL p0 0 t23)) ++ p1).length) c49)] (by kernel_rfl) ?_
          obtain ⟨⟨t56, t57, t58, t59, t60, t61, t62⟩, hg55, h⟩ := of_bind h
          dsimp only at h
          refine RegI.op (by kernel_rfl) (OpE.call 48 (by kernel_rfl) 15 #[.slice A48 (((([] : List Int) ++ (cutL p0 0 t23)) ++ p1).length) c49] (by kernel_rfl) ((decode_Next_15_ok K (fun _ => False) w47  A48 c49 ((([] : List Int) ++ (cutL p0 0 t23)) ++ p1) (fun _ hf => hf.elim) (h50.ownSl 4 rfl) hg55).mono ?_))
          rintro _ w52 ⟨rfl, hb53⟩
          refine ⟨_, rfl, ?_⟩
          have h54 := h50.call hb53
          refine RegI.pure 3 [0, 6, 8, 49, 50] [(0, .slice pA0 p0.length pc0), (6, .pointer (some ⟨b27, 0, none⟩)), (8, .slice A48 (((([] : List Int) ++ (cutL p0 0 t23)) ++ p1).length) c49), (49, .agg #[.int .i64 t56, .int .u8 t57, .int .u8 t58, .int .u16 t59, .int .i64 t60, .int .i64 t61]), (50, .bool t62)] (by kernel_rfl) ?_
          refine RegI.op (by kernel_rfl) (OpE.box 9 30 [.int .i64 0, .int .u8 0, .int .u8 0, .int .u16 0, .int .i64 0, .int .i64 0] h54 (by kernel_rfl) (by kernel_rfl) ?_)
          intro w63 b64 h65 hb66 hn67
          refine RegI.op (by kernel_rfl) (OpE.storeBox 5 30 b64 0 (.agg #[.int .i64 t56, .int .u8 t57, .int .u8 t58, .int .u16 t59, .int .i64 t60, .int .i64 t61]) [.int .i64 t56, .int .u8 t57, .int .u8 t58, .int .u16 t59, .int .i64 t60, .int .i64 t61] h65 (by kernel_rfl) (by kernel_rfl) rfl (by kernel_rfl) (by kernel_rfl) (by kernel_rfl) ?_)
          intro w68 h69 hk70
          refine RegI.pure 1 [0, 6, 8, 9, 10] [(0, .slice pA0 p0.length pc0), (6, .pointer (some ⟨b27, 0, none⟩)), (8, .slice A48 (((([] : List Int) ++ (cutL p0 0 t23)) ++ p1).length) c49), (9, .pointer (some ⟨b64, 0, none⟩)), (10, .bool t62)] (by kernel_rfl) ?_
          refine RegI.done (by kernel_rfl) ?_
          refine RunsI.go 2 [.c 40, .c 41, .c 46] (by kernel_rfl) ?_
          refine RunsI.region (by kernel_rfl) ?_
          refine RegI.pure 3 [0, 6, 8, 9, 53] [(0, .slice pA0 p0.length pc0), (6, .pointer (some ⟨b27, 0, none⟩)), (8, .slice A48 (((([] : List Int) ++ (cutL p0 0 t23)) ++ p1).length) c49), (9, .pointer (some ⟨b64, 0, none⟩)), (53, .bool (!t62))] (by kernel_rfl) ?_
          obtain ⟨j77, hJ78, h⟩ := of_let h
          have hj79 : ∀ (t74 : Bool) (w76 : World), j77 t74 = some r → Holds M0 w0 w76 [sl (Rp.int .u8) (.slice pA0 p0.length pc0) p0, box b27 30 [.int .i64 t19, .int .u8 t20, .int .u8 t21, .int .u16 t22, .int .i64 t23, .int .i64 t24], own (Rp.int .u8) 5 (.slice A48 (((([] : List Int) ++ (cutL p0 0 t23)) ++ p1).length) c49) ((([] : List Int) ++ (cutL p0 0 t23)) ++ p1)] → RegI F6 40 [.c 41, .c 46] 19 [(0, .slice pA0 p0.length pc0), (6, .pointer (some ⟨b27, 0, none⟩)), (8, .slice A48 (((([] : List Int) ++ (cutL p0 0 t23)) ++ p1).length) c49), (69, .bool t74)] w76 (charabanclaw08_DecodeShort_6.post M0 w0 r) := by
            intro t74 w76 h h75
            rw [hJ78] at h
            clear hJ78
            dsimp only at h
            refine RegI.done (by kernel_rfl) ?_
            rcases of_cond h with ⟨hc80, h⟩ | ⟨hc80, h⟩
            · skip
              refine RunsI.fix 69 true hc80 (by kernel_rfl) (by kernel_rfl) ?_
              refine RunsI.cond true 42 (by kernel_rfl) ?_
              refine RunsI.go 1 [.c 43, .c 44, .c 46] (by kernel_rfl) ?_
              refine RunsI.region (by kernel_rfl) ?_
              refine RegI.pure 1 [4] [(4, .bool false)] (by kernel_rfl) ?_
              refine RegI.done (by kernel_rfl) ?_
              refine RunsI.ret (.bool false) (by kernel_rfl) (by kernel_rfl) ?_
              obtain rfl := Option.some.inj h
              exact ⟨rfl, h75.below⟩
            · skip
              refine RunsI.fix 69 false hc80 (by kernel_rfl) (by kernel_rfl) ?_
              refine RunsI.cond false 45 (by kernel_rfl) ?_
              refine RunsI.go 1 [.c 46] (by kernel_rfl) ?_
              refine RunsI.go 2 [.c 48, .c 49, .c 69] (by kernel_rfl) ?_
              refine RunsI.region (by kernel_rfl) ?_
              refine RegI.pure 1 [0, 6, 8, 11] [(0, .slice pA0 p0.length pc0), (6, .pointer (some ⟨b27, 0, none⟩)), (8, .slice A48 (((([] : List Int) ++ (cutL p0 0 t23)) ++ p1).length) c49), (11, .int .i64 0)] (by kernel_rfl) ?_
              refine RegI.done (by kernel_rfl) ?_
              refine RunsI.go 2 [.c 51, .lp 51, .blk 0, .c 69] (by kernel_rfl) ?_
              obtain ⟨x117, hx118, h⟩ := of_bind h
              refine RunsI.only [0, 6, 8, 11] [(0, .slice pA0 p0.length pc0), (6, .pointer (some ⟨b27, 0, none⟩)), (8, .slice A48 (((([] : List Int) ++ (cutL p0 0 t23)) ++ p1).length) c49), (11, .int .i64 0)] (by kernel_rfl) (by kernel_rfl) ?_
              refine charabanclaw08_DecodeShort_6.l0_ok K M0 w0 pA0 pc0 pA1 pc1 p0 p1 t19 t20 t21 t22 t23 t24 ((([] : List Int) ++ (cutL p0 0 t23)) ++ p1) b27 A48 c49 _ x117 ?_ ?_ K 0 w76 hx118 (h75.pick [0, 1, 2] (by decide))
              · intro w120 hq179 h119
                (try rw [hq179] at h)
                dsimp only [Lp.elim] at h
                refine RunsI.go 2 [.c 71, .c 72, .c 77] (by kernel_rfl) ?_
                refine RunsI.region (by kernel_rfl) ?_
                refine RegI.pure 1 [0, 6, 8, 84] [(0, .slice pA0 p0.length pc0), (6, .pointer (some ⟨b27, 0, none⟩)), (8, .slice A48 (((([] : List Int) ++ (cutL p0 0 t23)) ++ p1).length) c49), (84, .slice pA0 p0.length pc0)] (by kernel_rfl) ?_
                obtain ⟨hc123, h⟩ := of_cond0 h
                refine RegI.op (by kernel_rfl) (OpE.idxSl 85 0 27 0 h119 (by kernel_rfl) rfl (by kernel_rfl) (by kernel_rfl) hc123 ?_)
                intro b124 o125 cs126 hk127 h128
                obtain rfl := hk127
                refine RegI.op (by kernel_rfl) (OpE.loadCel 86 3 5 b124 o125 0 (.int .u8 (rdD p0 0)) h128 (by kernel_rfl) (by kernel_rfl) rfl (by kernel_rfl) ?_)
                refine RegI.pure 2 [0, 6, 8, 88] [(0, .slice pA0 p0.length pc0), (6, .pointer (some ⟨b27, 0, none⟩)), (8, .slice A48 (((([] : List Int) ++ (cutL p0 0 t23)) ++ p1).length) c49), (88, .bool ((rdD p0 0) != 221))] (by kernel_rfl) ?_
                obtain ⟨j138, hJ139, h⟩ := of_let h
                have hj140 : ∀ (t135 : Bool) (w137 : World), j138 t135 = some r → Holds M0 w0 w137 [box b27 30 [.int .i64 t19, .int .u8 t20, .int .u8 t21, .int .u16 t22, .int .i64 t23, .int .i64 t24], own (Rp.int .u8) 5 (.slice A48 (((([] : List Int) ++ (cutL p0 0 t23)) ++ p1).length) c49) ((([] : List Int) ++ (cutL p0 0 t23)) ++ p1)] → RegI F6 71 [.c 72, .c 77] 10 [(6, .pointer (some ⟨b27, 0, none⟩)), (8, .slice A48 (((([] : List Int) ++ (cutL p0 0 t23)) ++ p1).length) c49), (93, .bool t135)] w137 (charabanclaw08_DecodeShort_6.post M0 w0 r) := by
                  intro t135 w137 h h136
                  rw [hJ139] at h
                  clear hJ139
                  dsimp only at h
                  refine RegI.done (by kernel_rfl) ?_
                  rcases of_cond h with ⟨hc141, h⟩ | ⟨hc141, h⟩
                  · skip
                    refine RunsI.fix 93 true hc141 (by kernel_rfl) (by kernel_rfl) ?_
                    refine RunsI.cond true 73 (by kernel_rfl) ?_
                    refine RunsI.go 1 [.c 74, .c 75, .c 77] (by kernel_rfl) ?_
                    refine RunsI.region (by kernel_rfl) ?_
                    refine RegI.pure 1 [94] [(94, .pointer (some ⟨b27, 5, none⟩))] (by kernel_rfl) ?_
                    refine RegI.op (by kernel_rfl) (OpE.loadBox 95 0 3 b27 5 (.int .i64 t24) h136 (by kernel_rfl) (by kernel_rfl) rfl (by kernel_rfl) ?_)
                    refine RegI.pure 2 [4] [(4, .bool (t24 == 0))] (by kernel_rfl) ?_
                    refine RegI.done (by kernel_rfl) ?_
                    refine RunsI.ret (.bool (t24 == 0)) (by kernel_rfl) (by kernel_rfl) ?_
                    obtain rfl := Option.some.inj h
                    exact ⟨rfl, h136.below⟩
                  · skip
                    refine RunsI.fix 93 false hc141 (by kernel_rfl) (by kernel_rfl) ?_
                    refine RunsI.cond false 76 (by kernel_rfl) ?_
                    refine RunsI.go 1 [.c 77] (by kernel_rfl) ?_
                    refine RunsI.go 1 [.c 78, .c 79] (by kernel_rfl) ?_
                    refine RunsI.region (by kernel_rfl) ?_
                    refine RegI.op (by kernel_rfl) (OpE.lit 98 5 [.int .u8 221] 1 h136 (by kernel_rfl) (by kernel_rfl) ?_)
                    intro w142 b143 h144 hb145 hn146
                    refine RegI.pure 1 [6, 98, 99] [(6, .pointer (some ⟨b27, 0, none⟩)), (98, .slice (some ⟨b143, 0, none⟩) (([221] : List Int).length) 1), (99, .slice A48 (((([] : List Int) ++ (cutL p0 0 t23)) ++ p1).length) c49)] (by kernel_rfl) ?_
                    have h147 := h144.boxOwn 2 rfl (Rp.int .u8) ([221] : List Int) (cells_int _ _ _ _) (Nat.le_of_ble_eq_true (by kernel_rfl))
                    obtain ⟨hc148, h⟩ := of_cond0 h
                    refine RegI.op (by kernel_rfl) (OpE.appendRow 100 2 27 5 1 (ys := ((([] : List Int) ++ (cutL p0 0 t23)) ++ p1)) h147 (by kernel_rfl) (by kernel_rfl) (by kernel_rfl) rfl (h147.rdOwn 1 rfl) hc148 ?_)
                    intro w149 A150 c151 h152 hk153
                    obtain ⟨⟨t158, t159, t160, t161, t162, t163, t164⟩, hg157, h⟩ := of_bind h
                    dsimp only at h
                    refine RegI.op (by kernel_rfl) (OpE.call 101 (by kernel_rfl) 15 #[.slice A150 ((([221] : List Int) ++ ((([] : List Int) ++ (cutL p0 0 t23)) ++ p1)).length) c151] (by kernel_rfl) ((decode_Next_15_ok K (fun _ => False) w149  A150 c151 (([221] : List Int) ++ ((([] : List Int) ++ (cutL p0 0 t23)) ++ p1)) (fun _ hf => hf.elim) (h152.ownSl 2 rfl) hg157).mono ?_))
                    rintro _ w154 ⟨rfl, hb155⟩
                    refine ⟨_, rfl, ?_⟩
                    have h156 := h152.call hb155
                    refine RegI.pure 3 [6, 102, 103] [(6, .pointer (some ⟨b27, 0, none⟩)), (102, .agg #[.int .i64 t158, .int .u8 t159, .int .u8 t160, .int .u16 t161, .int .i64 t162, .int .i64 t163]), (103, .bool t164)] (by kernel_rfl) ?_
                    refine RegI.op (by kernel_rfl) (OpE.box 14 30 [.int .i64 0, .int .u8 0, .int .u8 0, .int .u16 0, .int .i64 0, .int .i64 0] h156 (by kernel_rfl) (by kernel_rfl) ?_)
                    intro w165 b166 h167 hb168 hn169
                    refine RegI.op (by kernel_rfl) (OpE.storeBox 3 30 b166 0 (.agg #[.int .i64 t158, .int .u8 t159, .int .u8 t160, .int .u16 t161, .int .i64 t162, .int .i64 t163]) [.int .i64 t158, .int .u8 t159, .int .u8 t160, .int .u16 t161, .int .i64 t162, .int .i64 t163] h167 (by kernel_rfl) (by kernel_rfl) rfl (by kernel_rfl) (by kernel_rfl) (by kernel_rfl) ?_)
                    intro w170 h171 hk172
                    refine RegI.pure 1 [6, 14, 15] [(6, .pointer (some ⟨b27, 0, none⟩)), (14, .pointer (some ⟨b166, 0, none⟩)), (15, .bool t164)] (by kernel_rfl) ?_
                    refine RegI.done (by kernel_rfl) ?_
                    refine RunsI.go 1 [.c 80, .c 81] (by kernel_rfl) ?_
                    refine RunsI.region (by kernel_rfl) ?_
                    refine RegI.pure 2 [6, 14, 105] [(6, .pointer (some ⟨b27, 0, none⟩)), (14, .pointer (some ⟨b166, 0, none⟩)), (105, .bool t164)] (by kernel_rfl) ?_
                    rcases of_cond h with ⟨hc173, h⟩ | ⟨hc173, h⟩
                    · skip
                      refine RegI.fix 105 true hc173 (by kernel_rfl) (by kernel_rfl) ?_
                      refine RegI.pure 1 [6, 14, 105, 106] [(6, .pointer (some ⟨b27, 0, none⟩)), (14, .pointer (some ⟨b166, 0, none⟩)), (105, .bool true), (106, .pointer (some ⟨b166, 5, none⟩))] (by kernel_rfl) ?_
                      refine RegI.op (by kernel_rfl) (OpE.loadBox 107 3 3 b166 5 (.int .i64 t163) h171 (by kernel_rfl) (by kernel_rfl) rfl (by kernel_rfl) ?_)
                      refine RegI.pure 1 [6, 14, 105, 107, 108] [(6, .pointer (some ⟨b27, 0, none⟩)), (14, .pointer (some ⟨b166, 0, none⟩)), (105, .bool true), (107, .int .i64 t163), (108, .pointer (some ⟨b27, 5, none⟩))] (by kernel_rfl) ?_
                      refine RegI.op (by kernel_rfl) (OpE.loadBox 109 0 3 b27 5 (.int .i64 t24) h171 (by kernel_rfl) (by kernel_rfl) rfl (by kernel_rfl) ?_)
                      refine RegI.pure 4 [6, 14, 113] [(6, .pointer (some ⟨b27, 0, none⟩)), (14, .pointer (some ⟨b166, 0, none⟩)), (113, .bool (t163 == (IntKind.wrap .i64 (t24 + 1))))] (by kernel_rfl) ?_
                      rcases of_cond h with ⟨hc174, h⟩ | ⟨hc174, h⟩
                      · skip
                        refine RegI.fix 113 true hc174 (by kernel_rfl) (by kernel_rfl) ?_
                        refine RegI.pure 1 [6, 14, 113, 114] [(6, .pointer (some ⟨b27, 0, none⟩)), (14, .pointer (some ⟨b166, 0, none⟩)), (113, .bool true), (114, .pointer (some ⟨b166, 4, none⟩))] (by kernel_rfl) ?_
                        refine RegI.op (by kernel_rfl) (OpE.loadBox 115 3 3 b166 4 (.int .i64 t162) h171 (by kernel_rfl) (by kernel_rfl) rfl (by kernel_rfl) ?_)
                        refine RegI.pure 1 [6, 14, 113, 115, 116] [(6, .pointer (some ⟨b27, 0, none⟩)), (14, .pointer (some ⟨b166, 0, none⟩)), (113, .bool true), (115, .int .i64 t162), (116, .pointer (some ⟨b27, 4, none⟩))] (by kernel_rfl) ?_
                        refine RegI.op (by kernel_rfl) (OpE.loadBox 117 0 3 b27 4 (.int .i64 t23) h171 (by kernel_rfl) (by kernel_rfl) rfl (by kernel_rfl) ?_)
                        refine RegI.pure 4 [6, 14, 121] [(6, .pointer (some ⟨b27, 0, none⟩)), (14, .pointer (some ⟨b166, 0, none⟩)), (121, .bool (t162 == (IntKind.wrap .i64 (t23 + 1))))] (by kernel_rfl) ?_
                        rcases of_cond h with ⟨hc175, h⟩ | ⟨hc175, h⟩
                        · skip
                          refine RegI.fix 121 true hc175 (by kernel_rfl) (by kernel_rfl) ?_
                          refine RegI.pure 1 [6, 14, 121, 122] [(6, .pointer (some ⟨b27, 0, none⟩)), (14, .pointer (some ⟨b166, 0, none⟩)), (121, .bool true), (122, .pointer (some ⟨b166, 0, none⟩))] (by kernel_rfl) ?_
                          refine RegI.op (by kernel_rfl) (OpE.loadBox 123 3 3 b166 0 (.int .i64 t158) h171 (by kernel_rfl) (by kernel_rfl) rfl (by kernel_rfl) ?_)
                          refine RegI.pure 1 [6, 14, 121, 123, 124] [(6, .pointer (some ⟨b27, 0, none⟩)), (14, .pointer (some ⟨b166, 0, none⟩)), (121, .bool true), (123, .int .i64 t158), (124, .pointer (some ⟨b27, 0, none⟩))] (by kernel_rfl) ?_
                          refine RegI.op (by kernel_rfl) (OpE.loadBox 125 0 3 b27 0 (.int .i64 t19) h171 (by kernel_rfl) (by kernel_rfl) rfl (by kernel_rfl) ?_)
                          refine RegI.pure 3 [6, 14, 128] [(6, .pointer (some ⟨b27, 0, none⟩)), (14, .pointer (some ⟨b166, 0, none⟩)), (128, .bool (t158 == t19))] (by kernel_rfl) ?_
                          rcases of_cond h with ⟨hc176, h⟩ | ⟨hc176, h⟩
                          · skip
                            refine RegI.fix 128 true hc176 (by kernel_rfl) (by kernel_rfl) ?_
                            refine RegI.pure 1 [6, 14, 128, 129] [(6, .pointer (some ⟨b27, 0, none⟩)), (14, .pointer (some ⟨b166, 0, none⟩)), (128, .bool true), (129, .pointer (some ⟨b166, 1, none⟩))] (by kernel_rfl) ?_
                            refine RegI.op (by kernel_rfl) (OpE.loadBox 130 3 5 b166 1 (.int .u8 t159) h171 (by kernel_rfl) (by kernel_rfl) rfl (by kernel_rfl) ?_)
                            refine RegI.pure 1 [6, 14, 128, 130, 131] [(6, .pointer (some ⟨b27, 0, none⟩)), (14, .pointer (some ⟨b166, 0, none⟩)), (128, .bool true), (130, .int .u8 t159), (131, .pointer (some ⟨b27, 1, none⟩))] (by kernel_rfl) ?_
                            refine RegI.op (by kernel_rfl) (OpE.loadBox 132 0 5 b27 1 (.int .u8 t20) h171 (by kernel_rfl) (by kernel_rfl) rfl (by kernel_rfl) ?_)
                            refine RegI.pure 3 [6, 14, 135] [(6, .pointer (some ⟨b27, 0, none⟩)), (14, .pointer (some ⟨b166, 0, none⟩)), (135, .bool (t159 == t20))] (by kernel_rfl) ?_
                            rcases of_cond h with ⟨hc177, h⟩ | ⟨hc177, h⟩
                            · skip
                              refine RegI.fix 135 true hc177 (by kernel_rfl) (by kernel_rfl) ?_
                              refine RegI.pure 1 [6, 14, 135, 136] [(6, .pointer (some ⟨b27, 0, none⟩)), (14, .pointer (some ⟨b166, 0, none⟩)), (135, .bool true), (136, .pointer (some ⟨b166, 2, none⟩))] (by kernel_rfl) ?_
                              refine RegI.op (by kernel_rfl) (OpE.loadBox 137 3 5 b166 2 (.int .u8 t160) h171 (by kernel_rfl) (by kernel_rfl) rfl (by kernel_rfl) ?_)
                              refine RegI.pure 1 [6, 14, 135, 137, 138] [(6, .pointer (some ⟨b27, 0, none⟩)), (14, .pointer (some ⟨b166, 0, none⟩)), (135, .bool true), (137, .int .u8 t160), (138, .pointer (some ⟨b27, 2, none⟩))] (by kernel_rfl) ?_
                              refine RegI.op (by kernel_rfl) (OpE.loadBox 139 0 5 b27 2 (.int .u8 t21) h171 (by kernel_rfl) (by kernel_rfl) rfl (by kernel_rfl) ?_)
                              refine RegI.pure 3 [6, 14, 142] [(6, .pointer (some ⟨b27, 0, none⟩)), (14, .pointer (some ⟨b166, 0, none⟩)), (142, .bool (t160 == t21))] (by kernel_rfl) ?_
                              rcases of_cond h with ⟨hc178, h⟩ | ⟨hc178, h⟩
                              · skip
                                refine RegI.fix 142 true hc178 (by kernel_rfl) (by kernel_rfl) ?_
                                refine RegI.pure 1 [6, 142, 143] [(6, .pointer (some ⟨b27, 0, none⟩)), (142, .bool true), (143, .pointer (some ⟨b166, 3, none⟩))] (by kernel_rfl) ?_
                                refine RegI.op (by kernel_rfl) (OpE.loadBox 144 3 28 b166 3 (.int .u16 t161) h171 (by kernel_rfl) (by kernel_rfl) rfl (by kernel_rfl) ?_)
                                refine RegI.pure 1 [142, 144, 145] [(142, .bool true), (144, .int .u16 t161), (145, .pointer (some ⟨b27, 3, none⟩))] (by kernel_rfl) ?_
                                refine RegI.op (by kernel_rfl) (OpE.loadBox 146 0 28 b27 3 (.int .u16 t22) h171 (by kernel_rfl) (by kernel_rfl) rfl (by kernel_rfl) ?_)
                                refine RegI.pure 3 [4] [(4, .bool (t161 == t22))] (by kernel_rfl) ?_
                                refine RegI.done (by kernel_rfl) ?_
                                refine RunsI.ret (.bool (t161 == t22)) (by kernel_rfl) (by kernel_rfl) ?_
                                obtain rfl := Option.some.inj h
                                exact ⟨rfl, h171.below⟩
                              · skip
                                refine RegI.fix 142 false hc178 (by kernel_rfl) (by kernel_rfl) ?_
                                refine RegI.pure 7 [4] [(4, .bool false)] (by kernel_rfl) ?_
                                refine RegI.done (by kernel_rfl) ?_
                                refine RunsI.ret (.bool false) (by kernel_rfl) (by kernel_rfl) ?_
                                obtain rfl := Option.some.inj h
                                exact ⟨rfl, h171.below⟩
                            · skip
                              refine RegI.fix 135 false hc177 (by kernel_rfl) (by kernel_rfl) ?_
                              refine RegI.pure 14 [4] [(4, .bool false)] (by kernel_rfl) ?_
                              refine RegI.done (by kernel_rfl) ?_
                              refine RunsI.ret (.bool false) (by kernel_rfl) (by kernel_rfl) ?_
                              obtain rfl := Option.some.inj h
                              exact ⟨rfl, h171.below⟩
                          · skip
                            refine RegI.fix 128 false hc176 (by kernel_rfl) (by kernel_rfl) ?_
                            refine RegI.pure 21 [4] [(4, .bool false)] (by kernel_rfl) ?_
                            refine RegI.done (by kernel_rfl) ?_
                            refine RunsI.ret (.bool false) (by kernel_rfl) (by kernel_rfl) ?_
                            obtain rfl := Option.some.inj h
                            exact ⟨rfl, h171.below⟩
                        · skip
                          refine RegI.fix 121 false hc175 (by kernel_rfl) (by kernel_rfl) ?_
                          refine RegI.pure 28 [4] [(4, .bool false)] (by kernel_rfl) ?_
                          refine RegI.done (by kernel_rfl) ?_
                          refine RunsI.ret (.bool false) (by kernel_rfl) (by kernel_rfl) ?_
                          obtain rfl := Option.some.inj h
                          exact ⟨rfl, h171.below⟩
                      · skip
                        refine RegI.fix 113 false hc174 (by kernel_rfl) (by kernel_rfl) ?_
                        refine RegI.pure 36 [4] [(4, .bool false)] (by kernel_rfl) ?_
                        refine RegI.done (by kernel_rfl) ?_
                        refine RunsI.ret (.bool false) (by kernel_rfl) (by kernel_rfl) ?_
                        obtain rfl := Option.some.inj h
                        exact ⟨rfl, h171.below⟩
                    · skip
                      refine RegI.fix 105 false hc173 (by kernel_rfl) (by kernel_rfl) ?_
                      refine RegI.pure 44 [4] [(4, .bool false)] (by kernel_rfl) ?_
                      refine RegI.done (by kernel_rfl) ?_
                      refine RunsI.ret (.bool false) (by kernel_rfl) (by kernel_rfl) ?_
                      obtain rfl := Option.some.inj h
                      exact ⟨rfl, h171.below⟩
                clear hJ139
                rcases of_cond h with ⟨hc129, h⟩ | ⟨hc129, h⟩
                · skip
                  refine RegI.fix 88 true hc129 (by kernel_rfl) (by kernel_rfl) ?_
                  refine RegI.pure 1 [6, 8, 88, 89] [(6, .pointer (some ⟨b27, 0, none⟩)), (8, .slice A48 (((([] : List Int) ++ (cutL p0 0 t23)) ++ p1).length) c49), (88, .bool true), (89, .slice pA0 p0.length pc0)] (by kernel_rfl) ?_
                  refine RegI.op (by kernel_rfl) (OpE.idxSl 90 0 27 0 h128 (by kernel_rfl) rfl (by kernel_rfl) (by kernel_rfl) hc123 ?_)
                  intro b130 o131 cs132 hk133 h134
                  obtain rfl := hk133
                  refine RegI.op (by kernel_rfl) (OpE.loadCel 91 4 5 b130 o131 0 (.int .u8 (rdD p0 0)) h134 (by kernel_rfl) (by kernel_rfl) rfl (by kernel_rfl) ?_)
                  refine RegI.pure 2 [6, 8, 93] [(6, .pointer (some ⟨b27, 0, none⟩)), (8, .slice A48 (((([] : List Int) ++ (cutL p0 0 t23)) ++ p1).length) c49), (93, .bool ((rdD p0 0) != 253))] (by kernel_rfl) ?_
                  refine RegI.only [6, 8, 93] [(6, .pointer (some ⟨b27, 0, none⟩)), (8, .slice A48 (((([] : List Int) ++ (cutL p0 0 t23)) ++ p1).length) c49), (93, .bool ((rdD p0 0) != 253))] (by kernel_rfl) (by kernel_rfl) ?_
                  exact hj140 ((rdD p0 0) != 253) w120 h (h134.pick [1, 2] (by decide))
                · skip
                  refine RegI.fix 88 false hc129 (by kernel_rfl) (by kernel_rfl) ?_
                  refine RegI.pure 5 [6, 8, 93] [(6, .pointer (some ⟨b27, 0, none⟩)), (8, .slice A48 (((([] : List Int) ++ (cutL p0 0 t23)) ++ p1).length) c49), (93, .bool false)] (by kernel_rfl) ?_
                  refine RegI.only [6, 8, 93] [(6, .pointer (some ⟨b27, 0, none⟩)), (8, .slice A48 (((([] : List Int) ++ (cutL p0 0 t23)) ++ p1).length) c49), (93, .bool false)] (by kernel_rfl) (by kernel_rfl) ?_
                  exact hj140 false w120 h (h128.pick [1, 2] (by decide))
              · intro w122 hq180 h121
                (try rw [hq180] at h)
                dsimp only [Lp.elim] at h
                obtain rfl := Option.some.inj h
                exact ⟨rfl, h121.below⟩
          clear hJ78
          rcases of_cond h with ⟨hc71, h⟩ | ⟨hc71, h⟩
          · skip
            refine RegI.fix 53 true hc71 (by kernel_rfl) (by kernel_rfl) ?_
            refine RegI.pure 16 [0, 6, 8, 69] [(0, .slice pA0 p0.length pc0), (6, .pointer (some ⟨b27, 0, none⟩)), (8, .slice A48 (((([] : List Int) ++ (cutL p0 0 t23)) ++ p1).length) c49), (69, .bool true)] (by kernel_rfl) ?_
            refine RegI.only [0, 6, 8, 69] [(0, .slice pA0 p0.length pc0), (6, .pointer (some ⟨b27, 0, none⟩)), (8, .slice A48 (((([] : List Int) ++ (cutL p0 0 t23)) ++ p1).length) c49), (69, .bool true)] (by kernel_rfl) (by kernel_rfl) ?_
            exact hj79 true w68 h (h69.pick [0, 2, 4] (by decide))
          · skip
            refine RegI.fix 53 false hc71 (by kernel_rfl) (by kernel_rfl) ?_
            refine RegI.op (by kernel_rfl) (OpE.loadBox 54 5 30 b64 0 (.agg #[.int .i64 t56, .int .u8 t57, .int .u8 t58, .int .u16 t59, .int .i64 t60, .int .i64 t61]) h69 (by kernel_rfl) (by kernel_rfl) rfl (by kernel_rfl) ?_)
            refine RegI.op (by kernel_rfl) (OpE.loadBox 55 2 30 b27 0 (.agg #[.int .i64 t19, .int .u8 t20, .int .u8 t21, .int .u16 t22, .int .i64 t23, .int .i64 t24]) h69 (by kernel_rfl) (by kernel_rfl) rfl (by kernel_rfl) ?_)
            refine RegI.op (by kernel_rfl) (OpE.run 56 (by kernel_rfl) (run_eqS (neg := true) (t := 30) (x := .agg #[.int .i64 t56, .int .u8 t57, .int .u8 t58, .int .u16 t59, .int .i64 t60, .int .i64 t61]) (y := .agg #[.int .i64 t19, .int .u8 t20, .int .u8 t21, .int .u16 t22, .int .i64 t23, .int .i64 t24]) (b := ((t56 == t19) && ((t57 == t20) && ((t58 == t21) && ((t59 == t22) && ((t60 == t23) && ((t61 == t24) && true))))))) (by kernel_rfl) (by kernel_rfl) (by kernel_rfl) (by kernel_rfl)) ?_)
            refine RegI.pure 2 [0, 6, 8, 58] [(0, .slice pA0 p0.length pc0), (6, .pointer (some ⟨b27, 0, none⟩)), (8, .slice A48 (((([] : List Int) ++ (cutL p0 0 t23)) ++ p1).length) c49), (58, .bool (!((t56 == t19) && ((t57 == t20) && ((t58 == t21) && ((t59 == t22) && ((t60 == t23) && ((t61 == t24) && true))))))))] (by kernel_rfl) ?_
            rcases of_cond h with ⟨hc72, h⟩ | ⟨hc72, h⟩
            · skip
              refine RegI.fix 58 true hc72 (by kernel_rfl) (by kernel_rfl) ?_
              refine RegI.pure 11 [0, 6, 8, 69] [(0, .slice pA0 p0.length pc0), (6, .pointer (some ⟨b27, 0, none⟩)), (8, .slice A48 (((([] : List Int) ++ (cutL p0 0 t23)) ++ p1).length) c49), (69, .bool true)] (by kernel_rfl) ?_
              refine RegI.only [0, 6, 8, 69] [(0, .slice pA0 p0.length pc0), (6, .pointer (some ⟨b27, 0, none⟩)), (8, .slice A48 (((([] : List Int) ++ (cutL p0 0 t23)) ++ p1).length) c49), (69, .bool true)] (by kernel_rfl) (by kernel_rfl) ?_
              exact hj79 true w68 h (h69.pick [0, 2, 4] (by decide))
            · skip
              refine RegI.fix 58 false hc72 (by kernel_rfl) (by kernel_rfl) ?_
              refine RegI.pure 1 [0, 6, 8, 58, 59] [(0, .slice pA0 p0.length pc0), (6, .pointer (some ⟨b27, 0, none⟩)), (8, .slice A48 (((([] : List Int) ++ (cutL p0 0 t23)) ++ p1).length) c49), (58, .bool false), (59, .pointer (some ⟨b27, 4, none⟩))] (by kernel_rfl) ?_
              refine RegI.op (by kernel_rfl) (OpE.loadBox 60 2 3 b27 4 (.int .i64 t23) h69 (by kernel_rfl) (by kernel_rfl) rfl (by kernel_rfl) ?_)
              refine RegI.pure 3 [0, 6, 8, 63] [(0, .slice pA0 p0.length pc0), (6, .pointer (some ⟨b27, 0, none⟩)), (8, .slice A48 (((([] : List Int) ++ (cutL p0 0 t23)) ++ p1).length) c49), (63, .bool (decide (t23 < 1)))] (by kernel_rfl) ?_
              rcases of_cond h with ⟨hc73, h⟩ | ⟨hc73, h⟩
              · skip
                refine RegI.fix 63 true hc73 (by kernel_rfl) (by kernel_rfl) ?_
                refine RegI.pure 6 [0, 6, 8, 69] [(0, .slice pA0 p0.length pc0), (6, .pointer (some ⟨b27, 0, none⟩)), (8, .slice A48 (((([] : List Int) ++ (cutL p0 0 t23)) ++ p1).length) c49), (69, .bool true)] (by kernel_rfl) ?_
                refine RegI.only [0, 6, 8, 69] [(0, .slice pA0 p0.length pc0), (6, .pointer (some ⟨b27, 0, none⟩)), (8, .slice A48 (((([] : List Int) ++ (cutL p0 0 t23)) ++ p1).length) c49), (69, .bool true)] (by kernel_rfl) (by kernel_rfl) ?_
                exact hj79 true w68 h (h69.pick [0, 2, 4] (by decide))
              · skip
                refine RegI.fix 63 false hc73 (by kernel_rfl) (by kernel_rfl) ?_
                refine RegI.pure 1 [0, 6, 8, 63, 64] [(0, .slice pA0 p0.length pc0), (6, .pointer (some ⟨b27, 0, none⟩)), (8, .slice A48 (((([] : List Int) ++ (cutL p0 0 t23)) ++ p1).length) c49), (63, .bool false), (64, .pointer (some ⟨b27, 4, none⟩))] (by kernel_rfl) ?_
                refine RegI.op (by kernel_rfl) (OpE.loadBox 65 2 3 b27 4 (.int .i64 t23) h69 (by kernel_rfl) (by kernel_rfl) rfl (by kernel_rfl) ?_)
                refine RegI.pure 4 [0, 6, 8, 69] [(0, .slice pA0 p0.length pc0), (6, .pointer (some ⟨b27, 0, none⟩)), (8, .slice A48 (((([] : List Int) ++ (cutL p0 0 t23)) ++ p1).length) c49), (69, .bool (decide (t23 > (p0.length : Int))))] (by kernel_rfl) ?_
                refine RegI.only [0, 6, 8, 69] [(0, .slice pA0 p0.length pc0), (6, .pointer (some ⟨b27, 0, none⟩)), (8, .slice A48 (((([] : List Int) ++ (cutL p0 0 t23)) ++ p1).length) c49), (69, .bool (decide (t23 > (p0.length : Int))))] (by kernel_rfl) (by kernel_rfl) ?_
                exact hj79 (decide (t23 > (p0.length : Int))) w68 h (h69.pick [0, 2, 4] (by decide))
    clear hJ12
    rcases of_cond h with ⟨hc7, h⟩ | ⟨hc7, h⟩
    · skip
      refine RegI.fix 22 true hc7 (by kernel_rfl) (by kernel_rfl) ?_
      refine RegI.pure 4 [0, 1, 26] [(0, .slice pA0 p0.length pc0), (1, .slice pA1 p1.length pc1), (26, .bool true)] (by kernel_rfl) ?_
      refine RegI.only [0, 1, 26] [(0, .slice pA0 p0.length pc0), (1, .slice pA1 p1.length pc1), (26, .bool true)] (by kernel_rfl) (by kernel_rfl) ?_
      exact hj13 true w1 h (h3.pick [0, 1] (by decide))
    · skip
      refine RegI.fix 22 false hc7 (by kernel_rfl) (by kernel_rfl) ?_
      refine RegI.pure 4 [0, 1, 26] [(0, .slice pA0 p0.length pc0), (1, .slice pA1 p1.length pc1), (26, .bool (decide ((p1.length : Int) > 20)))] (by kernel_rfl) ?_
      refine RegI.only [0, 1, 26] [(0, .slice pA0 p0.length pc0), (1, .slice pA1 p1.length pc1), (26, .bool (decide ((p1.length : Int) > 20)))] (by kernel_rfl) (by kernel_rfl) ?_
      exact hj13 (decide ((p1.length : Int) > 20)) w1 h (h3.pick [0, 1] (by decide))
end
end Go.Proofs.Ytmcdkmakjjlcnaa.Dec
