/- The statement's function TimesParts as a plain Lean function; written by wip/eng.py. -/
import Derived.Test.YtmcdkmakjjlcnaaDoorTim4
set_option linter.unusedVariables false
set_option linter.unusedSimpArgs false
set_option maxHeartbeats 4000000
namespace Go.Proofs.YtmcdkmakjjlcnaaDoor.Tim
open Go.RowKit Go.Eng
noncomputable def B7 : Code := (Tryd.f7.body).getD .skip
noncomputable def F7 : Fun Tryd.prog := ⟨7, Tryd.f7, B7, 41, Tryd.func7, by kernel_rfl, by kernel_rfl, [], none⟩

/-! ### charabanc/charabanclaw10.TimesParts (function 7) -/
section
def charabanclaw10_TimesParts_7.post (M0 : Nat → Prop) (w0 : World) (r : Bool) : Ending → World → Prop := fun e w => e = .returned (.bool r) ∧ Below w0.heap.size w0 w
def charabanclaw10_TimesParts_7.f (K : Nat) (p0 : List Int) (p1 : List Int) : Option Bool := (charabanclaw10_awake_8.f K).bind fun t5 => cond (!t5) (some false) (Let (fun (t8 : Bool) => cond t8 (some true) ((charabancref08_All_17.f K p0).bind fun yt19 => cond (decide (yt19.2 > 0)) (some true) (cond (mayBe (([] : List Int).length + p0.length) 1) (cond (mayBe ((([] : List Int) ++ p0).length + p1.length) 1) ((times_All_13.f K ((([] : List Int) ++ p0) ++ p1)).bind fun t43 => (times_All_13.f K p0).bind fun t48 => (times_All_13.f K p1).bind fun t53 => some (t43 == (IntKind.wrap .i64 (t48 + t53)))) none) none))) (fun j11 => cond (decide ((p0.length : Int) > 100)) (j11 true) (j11 (decide ((p1.length : Int) > 100)))))
set_option maxRecDepth 100000 in
theorem charabanclaw10_TimesParts_7_ok (K : Nat) (M0 : Nat → Prop) (w0 : World) (pA0 : Option Addr) (pc0 : Nat) (pA1 : Option Addr) (pc1 : Nat) (p0 : List Int) (p1 : List Int) (ho : ∀ b, M0 b → b < w0.heap.size) (hs0 : Sl (Rp.int .u8) w0 M0 (.slice pA0 p0.length pc0) p0) (hs1 : Sl (Rp.int .u8) w0 M0 (.slice pA1 p1.length pc1) p1) (hG0 : (gl 0 (tab_0.flatMap en_0)).ok w0 M0) (hG1 : (gl 1 (tab_1.flatMap en_1)).ok w0 M0) {r : Bool} (h : charabanclaw10_TimesParts_7.f K p0 p1 = some r) :
    Calls Tryd.prog 7 #[.slice pA0 p0.length pc0, .slice pA1 p1.length pc1] w0 (charabanclaw10_TimesParts_7.post M0 w0 r) := by
  unfold charabanclaw10_TimesParts_7.f at h
  have h0 : Holds M0 w0 w0 [] := Holds.start ho
  have h00 := h0.addSl (Rp.int .u8) (.slice pA0 p0.length pc0) p0 (hs0.mono (fun _ _ hm => hm.elim id (fun hm => absurd hm (by simp [mines, sl]))))
  have h01 := h00.addSl (Rp.int .u8) (.slice pA1 p1.length pc1) p1 (hs1.mono (fun _ _ hm => hm.elim id (fun hm => absurd hm (by simp [mines, sl]))))
  have h0g0 := h01.add (gl 0 (tab_0.flatMap en_0)) rfl ⟨hG0.1, fun hm => hG0.2.1 (hm.elim id (fun hm => absurd hm (by simp [mines, sl, gl]))), hG0.2.2⟩
  have h0g1 := h0g0.add (gl 1 (tab_1.flatMap en_1)) rfl ⟨hG1.1, fun hm => hG1.2.1 (hm.elim id (fun hm => absurd hm (by simp [mines, sl, gl]))), hG1.2.2⟩
  have h0 : Holds M0 w0 w0 [sl (Rp.int .u8) (.slice pA0 p0.length pc0) p0, sl (Rp.int .u8) (.slice pA1 p1.length pc1) p1, gl 0 (tab_0.flatMap en_0), gl 1 (tab_1.flatMap en_1)] := h0g1
  refine calls_of F7 rfl [.slice pA0 p0.length pc0, .slice pA1 p1.length pc1] (by kernel_rfl) ?_
  refine RunsI.go 1 [.c 1, .c 2] (by kernel_rfl) ?_
  refine RunsI.region (by kernel_rfl) ?_
  refine RegI.pure 1 [0, 1] [(0, .slice pA0 p0.length pc0), (1, .slice pA1 p1.length pc1)] (by kernel_rfl) ?_
  refine RegI.done (by kernel_rfl) ?_
  refine RunsI.go 1 [.c 3, .c 4] (by kernel_rfl) ?_
  refine RunsI.region (by kernel_rfl) ?_
  obtain ⟨t5, hg4, h⟩ := of_bind h
  refine RegI.op (by kernel_rfl) (OpE.call 9 (by kernel_rfl) 8 #[] (by kernel_rfl) ((charabanclaw10_awake_8_ok K _ w0  h0.old' (h0.get 2 rfl) (h0.get 3 rfl) hg4).mono ?_))
  rintro _ w1 ⟨rfl, hb2⟩
  refine ⟨_, rfl, ?_⟩
  have h3 := h0.call hb2
  refine RegI.pure 1 [0, 1, 5] [(0, .slice pA0 p0.length pc0), (1, .slice pA1 p1.length pc1), (5, .bool t5)] (by kernel_rfl) ?_
  refine RegI.done (by kernel_rfl) ?_
  refine RunsI.go 2 [.c 6, .c 7, .c 12] (by kernel_rfl) ?_
  refine RunsI.region (by kernel_rfl) ?_
  refine RegI.pure 2 [0, 1, 11] [(0, .slice pA0 p0.length pc0), (1, .slice pA1 p1.length pc1), (11, .bool (!t5))] (by kernel_rfl) ?_
  refine RegI.done (by kernel_rfl) ?_
  rcases of_cond h with ⟨hc6, h⟩ | ⟨hc6, h⟩
  · skip
    refine RunsI.fix 11 true hc6 (by kernel_rfl) (by kernel_rfl) ?_
    refine RunsI.cond true 8 (by kernel_rfl) ?_
    refine RunsI.go 1 [.c 9, .c 10, .c 12] (by kernel_rfl) ?_
    refine RunsI.region (by kernel_rfl) ?_
    refine RegI.pure 1 [4] [(4, .bool false)] (by kernel_rfl) ?_
    refine RegI.done (by kernel_rfl) ?_
    refine RunsI.ret (.bool false) (by kernel_rfl) (by kernel_rfl) ?_
    obtain rfl := Option.some.inj h
    exact ⟨rfl, h3.below⟩
  · skip
    refine RunsI.fix 11 false hc6 (by kernel_rfl) (by kernel_rfl) ?_
    refine RunsI.cond false 11 (by kernel_rfl) ?_
    refine RunsI.go 1 [.c 12] (by kernel_rfl) ?_
    refine RunsI.go 2 [.c 14, .c 15, .c 20] (by kernel_rfl) ?_
    refine RunsI.region (by kernel_rfl) ?_
    refine RegI.pure 4 [0, 1, 15] [(0, .slice pA0 p0.length pc0), (1, .slice pA1 p1.length pc1), (15, .bool (decide ((p0.length : Int) > 100)))] (by kernel_rfl) ?_
    obtain ⟨j11, hJ12, h⟩ := of_let h
    have hj13 : ∀ (t8 : Bool) (w10 : World), j11 t8 = some r → Holds M0 w0 w10 [sl (Rp.int .u8) (.slice pA0 p0.length pc0) p0, sl (Rp.int .u8) (.slice pA1 p1.length pc1) p1, gl 0 (tab_0.flatMap en_0), gl 1 (tab_1.flatMap en_1)] → RegI F7 14 [.c 15, .c 20] 8 [(0, .slice pA0 p0.length pc0), (1, .slice pA1 p1.length pc1), (19, .bool t8)] w10 (charabanclaw10_TimesParts_7.post M0 w0 r) := by
      intro t8 w10 h h9
      rw [hJ12] at h
      clear hJ12
      dsimp only at h
      refine RegI.done (by kernel_rfl) ?_
      rcases of_cond h with ⟨hc14, h⟩ | ⟨hc14, h⟩
      · skip
        refine RunsI.fix 19 true hc14 (by kernel_rfl) (by kernel_rfl) ?_
        refine RunsI.cond true 16 (by kernel_rfl) ?_
        refine RunsI.go 1 [.c 17, .c 18, .c 20] (by kernel_rfl) ?_
        refine RunsI.region (by kernel_rfl) ?_
        refine RegI.pure 1 [4] [(4, .bool true)] (by kernel_rfl) ?_
        refine RegI.done (by kernel_rfl) ?_
        refine RunsI.ret (.bool true) (by kernel_rfl) (by kernel_rfl) ?_
        obtain rfl := Option.some.inj h
        exact ⟨rfl, h9.below⟩
      · skip
        refine RunsI.fix 19 false hc14 (by kernel_rfl) (by kernel_rfl) ?_
        refine RunsI.cond false 19 (by kernel_rfl) ?_
        refine RunsI.go 1 [.c 20] (by kernel_rfl) ?_
        refine RunsI.go 1 [.c 21, .c 22] (by kernel_rfl) ?_
        refine RunsI.region (by kernel_rfl) ?_
        refine RegI.pure 1 [0, 1, 21] [(0, .slice pA0 p0.length pc0), (1, .slice pA1 p1.length pc1), (21, .slice pA0 p0.length pc0)] (by kernel_rfl) ?_
        obtain ⟨⟨t19, t23⟩, hg18, h⟩ := of_bind h
        dsimp only at h
        refine RegI.op (by kernel_rfl) (OpE.call 22 (by kernel_rfl) 17 #[.slice pA0 p0.length pc0] (by kernel_rfl) ((charabancref08_All_17_ok K _ w10  pA0 pc0 p0 h9.old' (h9.get 0 rfl) hg18).mono ?_))
        rintro _ w15 ⟨A20, c21, rfl, hr24⟩
        refine ⟨_, rfl, ?_⟩
        have hb16 := hr24.below
        have h17 := h9.join hr24
        refine RegI.pure 5 [0, 1, 7] [(0, .slice pA0 p0.length pc0), (1, .slice pA1 p1.length pc1), (7, .int .i64 t23)] (by kernel_rfl) ?_
        refine RegI.done (by kernel_rfl) ?_
        refine RunsI.go 2 [.c 24, .c 25, .c 30] (by kernel_rfl) ?_
        refine RunsI.region (by kernel_rfl) ?_
        refine RegI.pure 2 [0, 1, 26] [(0, .slice pA0 p0.length pc0), (1, .slice pA1 p1.length pc1), (26, .bool (decide (t23 > 0)))] (by kernel_rfl) ?_
        refine RegI.done (by kernel_rfl) ?_
        rcases of_cond h with ⟨hc25, h⟩ | ⟨hc25, h⟩
        · skip
          refine RunsI.fix 26 true hc25 (by kernel_rfl) (by kernel_rfl) ?_
          refine RunsI.cond true 26 (by kernel_rfl) ?_
          refine RunsI.go 1 [.c 27, .c 28, .c 30] (by kernel_rfl) ?_
          refine RunsI.region (by kernel_rfl) ?_
          refine RegI.pure 1 [4] [(4, .bool true)] (by kernel_rfl) ?_
          refine RegI.done (by kernel_rfl) ?_
          refine RunsI.ret (.bool true) (by kernel_rfl) (by kernel_rfl) ?_
          obtain rfl := Option.some.inj h
          exact ⟨rfl, h17.below⟩
        · skip
          refine RunsI.fix 26 false hc25 (by kernel_rfl) (by kernel_rfl) ?_
          refine RunsI.cond false 29 (by kernel_rfl) ?_
          refine RunsI.go 1 [.c 30] (by kernel_rfl) ?_
          refine RunsI.go 1 [.c 31, .c 32] (by kernel_rfl) ?_
          refine RunsI.region (by kernel_rfl) ?_
          refine RegI.pure 1 [0, 1, 8] [(0, .slice pA0 p0.length pc0), (1, .slice pA1 p1.length pc1), (8, .slice none 0 0)] (by kernel_rfl) ?_
          refine RegI.done (by kernel_rfl) ?_
          refine RunsI.go 1 [.c 33, .c 34] (by kernel_rfl) ?_
          refine RunsI.region (by kernel_rfl) ?_
          refine RegI.pure 2 [0, 1, 27, 28] [(0, .slice pA0 p0.length pc0), (1, .slice pA1 p1.length pc1), (27, .slice none 0 0), (28, .slice pA0 p0.length pc0)] (by kernel_rfl) ?_
          have h26 := h17.addOwnNil (Rp.int .u8) 5
          obtain ⟨hc27, h⟩ := of_cond0 h
          refine RegI.op (by kernel_rfl) (OpE.appendRow 29 5 29 5 1 (ys := p0) h26 (by kernel_rfl) (by kernel_rfl) (by kernel_rfl) rfl (h26.rdSl 0 rfl) hc27 ?_)
          intro w28 A29 c30 h31 hk32
          refine RegI.pure 1 [0, 1, 8] [(0, .slice pA0 p0.length pc0), (1, .slice pA1 p1.length pc1), (8, .slice A29 ((([] : List Int) ++ p0).length) c30)] (by kernel_rfl) ?_
          refine RegI.done (by kernel_rfl) ?_
          refine RunsI.go 1 [.c 35, .c 36] (by kernel_rfl) ?_
          refine RunsI.region (by kernel_rfl) ?_
          refine RegI.pure 2 [0, 1, 30, 31] [(0, .slice pA0 p0.length pc0), (1, .slice pA1 p1.length pc1), (30, .slice A29 ((([] : List Int) ++ p0).length) c30), (31, .slice pA1 p1.length pc1)] (by kernel_rfl) ?_
          obtain ⟨hc33, h⟩ := of_cond0 h
          refine RegI.op (by kernel_rfl) (OpE.appendRow 32 5 29 5 1 (ys := p1) h31 (by kernel_rfl) (by kernel_rfl) (by kernel_rfl) rfl (h31.rdSl 1 rfl) hc33 ?_)
          intro w34 A35 c36 h37 hk38
          refine RegI.pure 1 [0, 1, 8] [(0, .slice pA0 p0.length pc0), (1, .slice pA1 p1.length pc1), (8, .slice A35 (((([] : List Int) ++ p0) ++ p1).length) c36)] (by kernel_rfl) ?_
          refine RegI.done (by kernel_rfl) ?_
          refine RunsI.go 1 [.c 37, .c 38] (by kernel_rfl) ?_
          refine RunsI.region (by kernel_rfl) ?_
          refine RegI.pure 1 [0, 1, 33] [(0, .slice pA0 p0.length pc0), (1, .slice pA1 p1.length pc1), (33, .slice A35 (((([] : List Int) ++ p0) ++ p1).length) c36)] (by kernel_rfl) ?_
          obtain ⟨t43, hg42, h⟩ := of_bind h
          refine RegI.op (by kernel_rfl) (OpE.call 34 (by kernel_rfl) 13 #[.slice A35 (((([] : List Int) ++ p0) ++ p1).length) c36] (by kernel_rfl) ((times_All_13_ok K (fun _ => False) w34  A35 c36 ((([] : List Int) ++ p0) ++ p1) (fun _ hf => hf.elim) (h37.ownSl 5 rfl) ⟨(h37.get 2 rfl).1, fun hf => hf.elim, (h37.get 2 rfl).2.2⟩ ⟨(h37.get 3 rfl).1, fun hf => hf.elim, (h37.get 3 rfl).2.2⟩ hg42).mono ?_))
          rintro _ w39 ⟨rfl, hb40⟩
          refine ⟨_, rfl, ?_⟩
          have h41 := h37.call hb40
          refine RegI.pure 1 [1, 34, 35] [(1, .slice pA1 p1.length pc1), (34, .int .i64 t43), (35, .slice pA0 p0.length pc0)] (by kernel_rfl) ?_
          obtain ⟨t48, hg47, h⟩ := of_bind h
          refine RegI.op (by kernel_rfl) (OpE.call 36 (by kernel_rfl) 13 #[.slice pA0 p0.length pc0] (by kernel_rfl) ((times_All_13_ok K _ w39  pA0 pc0 p0 h41.old' (h41.get 0 rfl) (h41.get 2 rfl) (h41.get 3 rfl) hg47).mono ?_))
          rintro _ w44 ⟨rfl, hb45⟩
          refine ⟨_, rfl, ?_⟩
          have h46 := h41.call hb45
          refine RegI.pure 1 [34, 36, 37] [(34, .int .i64 t43), (36, .int .i64 t48), (37, .slice pA1 p1.length pc1)] (by kernel_rfl) ?_
          obtain ⟨t53, hg52, h⟩ := of_bind h
          refine RegI.op (by kernel_rfl) (OpE.call 38 (by kernel_rfl) 13 #[.slice pA1 p1.length pc1] (by kernel_rfl) ((times_All_13_ok K _ w44  pA1 pc1 p1 h46.old' (h46.get 1 rfl) (h46.get 2 rfl) (h46.get 3 rfl) hg52).mono ?_))
          rintro _ w49 ⟨rfl, hb50⟩
          refine ⟨_, rfl, ?_⟩
          have h51 := h46.call hb50
          refine RegI.pure 3 [4] [(4, .bool (t43 == (IntKind.wrap .i64 (t48 + t53))))] (by kernel_rfl) ?_
          refine RegI.done (by kernel_rfl) ?_
          refine RunsI.ret (.bool (t43 == (IntKind.wrap .i64 (t48 + t53)))) (by kernel_rfl) (by kernel_rfl) ?_
          obtain rfl := Option.some.inj h
          exact ⟨rfl, h51.below⟩
    clear hJ12
    rcases of_cond h with ⟨hc7, h⟩ | ⟨hc7, h⟩
    · skip
      refine RegI.fix 15 true hc7 (by kernel_rfl) (by kernel_rfl) ?_
      refine RegI.pure 4 [0, 1, 19] [(0, .slice pA0 p0.length pc0), (1, .slice pA1 p1.length pc1), (19, .bool true)] (by kernel_rfl) ?_
      refine RegI.only [0, 1, 19] [(0, .slice pA0 p0.length pc0), (1, .slice pA1 p1.length pc1), (19, .bool true)] (by kernel_rfl) (by kernel_rfl) ?_
      exact hj13 true w1 h (h3.pick [0, 1, 2, 3] (by decide))
    · skip
      refine RegI.fix 15 false hc7 (by kernel_rfl) (by kernel_rfl) ?_
      refine RegI.pure 4 [0, 1, 19] [(0, .slice pA0 p0.length pc0), (1, .slice pA1 p1.length pc1), (19, .bool (decide ((p1.length : Int) > 100)))] (by kernel_rfl) ?_
      refine RegI.only [0, 1, 19] [(0, .slice pA0 p0.length pc0), (1, .slice pA1 p1.length pc1), (19, .bool (decide ((p1.length : Int) > 100)))] (by kernel_rfl) (by kernel_rfl) ?_
      exact hj13 (decide ((p1.length : Int) > 100)) w1 h (h3.pick [0, 1, 2, 3] (by decide))
end
end Go.Proofs.YtmcdkmakjjlcnaaDoor.Tim
