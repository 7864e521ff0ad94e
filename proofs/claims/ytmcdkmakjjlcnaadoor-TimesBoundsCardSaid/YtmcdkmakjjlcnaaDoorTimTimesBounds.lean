/- The statement's function TimesBounds as a plain Lean function; written by wip/eng.py. -/
import Derived.Test.YtmcdkmakjjlcnaaDoorTim4
set_option linter.unusedVariables false
set_option linter.unusedSimpArgs false
set_option maxHeartbeats 4000000
namespace Go.Proofs.YtmcdkmakjjlcnaaDoor.Tim
open Go.RowKit Go.Eng
noncomputable def B5 : Code := (Tryd.f5.body).getD .skip
noncomputable def F5 : Fun Tryd.prog := ⟨5, Tryd.f5, B5, 72, Tryd.func5, by kernel_rfl, by kernel_rfl, [], none⟩

/-! ### charabanc/charabanclaw10.TimesBounds (function 5) -/
section
def charabanclaw10_TimesBounds_5.post (M0 : Nat → Prop) (w0 : World) (r : Bool) : Ending → World → Prop := fun e w => e = .returned (.bool r) ∧ Below w0.heap.size w0 w
def charabanclaw10_TimesBounds_5.f (K : Nat) (p0 : Int) (p1 : Int) (p2 : Int) : Option Bool := (charabanclaw10_awake_8.f K).bind fun t5 => cond (!t5) (some false) ((times_Of_9.f K p0 p1 p2 0 0 0 false).bind fun t19 => (times_Of_9.f K p0 p1 p2 0 0 0 true).bind fun t24 => Let (fun (t26 : Bool) => cond t26 (cond (t19 == 0) (some (t24 == 0)) (some false)) (Let (fun (t44 : Bool) => cond t44 (some false) (cond (t24 == t19) ((times_Asks_11.f K p0 p1 p2 0 0 2).bind fun t56 => cond (!t56) (some true) (cond (decide ((IntKind.wrap .i64 (t24 - t19)) ≥ 5)) (cond (decide ((IntKind.wrap .i64 (t24 - t19)) ≤ 7)) ((times_Asks_11.f K p0 p1 p2 0 0 2).bind fun t64 => some t64) (some false)) (some false))) (cond (decide ((IntKind.wrap .i64 (t24 - t19)) ≥ 5)) (cond (decide ((IntKind.wrap .i64 (t24 - t19)) ≤ 7)) ((times_Asks_11.f K p0 p1 p2 0 0 2).bind fun t71 => some t71) (some false)) (some false)))) (fun j47 => cond (decide (t19 < 4)) (j47 true) (cond (decide (t19 > 23)) (j47 true) ((times_Of_9.f K p0 p1 p2 0 0 2 false).bind fun t43 => j47 (t43 != (IntKind.wrap .i64 (t19 + 8)))))))) (fun j29 => cond (decide (p0 < 0)) (j29 true) (j29 (decide (p0 > 6)))))
set_option maxRecDepth 100000 in
theorem charabanclaw10_TimesBounds_5_ok (K : Nat) (M0 : Nat → Prop) (w0 : World) (p0 : Int) (p1 : Int) (p2 : Int) (ho : ∀ b, M0 b → b < w0.heap.size) (hG0 : (gl 0 (tab_0.flatMap en_0)).ok w0 M0) (hG1 : (gl 1 (tab_1.flatMap en_1)).ok w0 M0) {r : Bool} (h : charabanclaw10_TimesBounds_5.f K p0 p1 p2 = some r) :
    Calls Tryd.prog 5 #[.int .i64 p0, .int .u8 p1, .int .u8 p2] w0 (charabanclaw10_TimesBounds_5.post M0 w0 r) := by
  unfold charabanclaw10_TimesBounds_5.f at h
  have h0 : Holds M0 w0 w0 [] := Holds.start ho
  have h0g0 := h0.add (gl 0 (tab_0.flatMap en_0)) rfl ⟨hG0.1, fun hm => hG0.2.1 (hm.elim id (fun hm => absurd hm (by simp [mines, sl, gl]))), hG0.2.2⟩
  have h0g1 := h0g0.add (gl 1 (tab_1.flatMap en_1)) rfl ⟨hG1.1, fun hm => hG1.2.1 (hm.elim id (fun hm => absurd hm (by simp [mines, sl, gl]))), hG1.2.2⟩
  have h0 : Holds M0 w0 w0 [gl 0 (tab_0.flatMap en_0), gl 1 (tab_1.flatMap en_1)] := h0g1
  refine calls_of F5 rfl [.int .i64 p0, .int .u8 p1, .int .u8 p2] (by kernel_rfl) ?_
  refine RunsI.go 1 [.c 1, .c 2] (by kernel_rfl) ?_
  refine RunsI.region (by kernel_rfl) ?_
  refine RegI.pure 1 [0, 1, 2] [(0, .int .i64 p0), (1, .int .u8 p1), (2, .int .u8 p2)] (by kernel_rfl) ?_
  refine RegI.done (by kernel_rfl) ?_
  refine RunsI.go 1 [.c 3, .c 4] (by kernel_rfl) ?_
  refine RunsI.region (by kernel_rfl) ?_
  obtain ⟨t5, hg4, h⟩ := of_bind h
  refine RegI.op (by kernel_rfl) (OpE.call 11 (by kernel_rfl) 8 #[] (by kernel_rfl) ((charabanclaw10_awake_8_ok K _ w0  h0.old' (h0.get 0 rfl) (h0.get 1 rfl) hg4).mono ?_))
  rintro _ w1 ⟨rfl, hb2⟩
  refine ⟨_, rfl, ?_⟩
  have h3 := h0.call hb2
  refine RegI.pure 1 [0, 1, 2, 7] [(0, .int .i64 p0), (1, .int .u8 p1), (2, .int .u8 p2), (7, .bool t5)] (by kernel_rfl) ?_
  refine RegI.done (by kernel_rfl) ?_
  refine RunsI.go 2 [.c 6, .c 7, .c 12] (by kernel_rfl) ?_
  refine RunsI.region (by kernel_rfl) ?_
  refine RegI.pure 2 [0, 1, 2, 13] [(0, .int .i64 p0), (1, .int .u8 p1), (2, .int .u8 p2), (13, .bool (!t5))] (by kernel_rfl) ?_
  refine RegI.done (by kernel_rfl) ?_
  rcases of_cond h with ⟨hc6, h⟩ | ⟨hc6, h⟩
  · skip
    refine RunsI.fix 13 true hc6 (by kernel_rfl) (by kernel_rfl) ?_
    refine RunsI.cond true 8 (by kernel_rfl) ?_
    refine RunsI.go 1 [.c 9, .c 10, .c 12] (by kernel_rfl) ?_
    refine RunsI.region (by kernel_rfl) ?_
    refine RegI.pure 1 [6] [(6, .bool false)] (by kernel_rfl) ?_
    refine RegI.done (by kernel_rfl) ?_
    refine RunsI.ret (.bool false) (by kernel_rfl) (by kernel_rfl) ?_
    obtain rfl := Option.some.inj h
    exact ⟨rfl, h3.below⟩
  · skip
    refine RunsI.fix 13 false hc6 (by kernel_rfl) (by kernel_rfl) ?_
    refine RunsI.cond false 11 (by kernel_rfl) ?_
    refine RunsI.go 1 [.c 12] (by kernel_rfl) ?_
    refine RunsI.go 1 [.c 13, .c 14] (by kernel_rfl) ?_
    refine RunsI.region (by kernel_rfl) ?_
    refine RegI.pure 4 [0, 17] [(0, .int .i64 p0), (17, .agg #[.int .i64 p0, .int .u8 p1, .int .u8 p2, .int .u16 0, .int .i64 0, .int .i64 0])] (by kernel_rfl) ?_
    refine RegI.op (by kernel_rfl) (OpE.box 8 24 [.int .i64 0, .int .u8 0, .int .u8 0, .int .u16 0, .int .i64 0, .int .i64 0] h3 (by kernel_rfl) (by kernel_rfl) ?_)
    intro w7 b8 h9 hb10 hn11
    refine RegI.op (by kernel_rfl) (OpE.storeBox 2 24 b8 0 (.agg #[.int .i64 p0, .int .u8 p1, .int .u8 p2, .int .u16 0, .int .i64 0, .int .i64 0]) [.int .i64 p0, .int .u8 p1, .int .u8 p2, .int .u16 0, .int .i64 0, .int .i64 0] h9 (by kernel_rfl) (by kernel_rfl) rfl (by kernel_rfl) (by kernel_rfl) (by kernel_rfl) ?_)
    intro w12 h13 hk14
    refine RegI.done (by kernel_rfl) ?_
    refine RunsI.go 1 [.c 15, .c 16] (by kernel_rfl) ?_
    refine RunsI.region (by kernel_rfl) ?_
    refine RegI.op (by kernel_rfl) (OpE.loadBox 18 2 24 b8 0 (.agg #[.int .i64 p0, .int .u8 p1, .int .u8 p2, .int .u16 0, .int .i64 0, .int .i64 0]) h13 (by kernel_rfl) (by kernel_rfl) rfl (by kernel_rfl) ?_)
    obtain ⟨t19, hg18, h⟩ := of_bind h
    refine RegI.op (by kernel_rfl) (OpE.call 19 (by kernel_rfl) 9 #[.agg #[.int .i64 p0, .int .u8 p1, .int .u8 p2, .int .u16 0, .int .i64 0, .int .i64 0], .bool false] (by kernel_rfl) ((times_Of_9_ok K _ w12  p0 p1 p2 0 0 0 false h13.old' (h13.get 0 rfl) (h13.get 1 rfl) hg18).mono ?_))
    rintro _ w15 ⟨rfl, hb16⟩
    refine ⟨_, rfl, ?_⟩
    have h17 := h13.call hb16
    refine RegI.pure 1 [0, 8, 9] [(0, .int .i64 p0), (8, .pointer (some ⟨b8, 0, none⟩)), (9, .int .i64 t19)] (by kernel_rfl) ?_
    refine RegI.done (by kernel_rfl) ?_
    refine RunsI.go 1 [.c 17, .c 18] (by kernel_rfl) ?_
    refine RunsI.region (by kernel_rfl) ?_
    refine RegI.op (by kernel_rfl) (OpE.loadBox 20 2 24 b8 0 (.agg #[.int .i64 p0, .int .u8 p1, .int .u8 p2, .int .u16 0, .int .i64 0, .int .i64 0]) h17 (by kernel_rfl) (by kernel_rfl) rfl (by kernel_rfl) ?_)
    obtain ⟨t24, hg23, h⟩ := of_bind h
    refine RegI.op (by kernel_rfl) (OpE.call 21 (by kernel_rfl) 9 #[.agg #[.int .i64 p0, .int .u8 p1, .int .u8 p2, .int .u16 0, .int .i64 0, .int .i64 0], .bool true] (by kernel_rfl) ((times_Of_9_ok K _ w15  p0 p1 p2 0 0 0 true h17.old' (h17.get 0 rfl) (h17.get 1 rfl) hg23).mono ?_))
    rintro _ w20 ⟨rfl, hb21⟩
    refine ⟨_, rfl, ?_⟩
    have h22 := h17.call hb21
    refine RegI.pure 1 [0, 8, 9, 10] [(0, .int .i64 p0), (8, .pointer (some ⟨b8, 0, none⟩)), (9, .int .i64 t19), (10, .int .i64 t24)] (by kernel_rfl) ?_
    refine RegI.done (by kernel_rfl) ?_
    refine RunsI.go 2 [.c 20, .c 21, .c 26] (by kernel_rfl) ?_
    refine RunsI.region (by kernel_rfl) ?_
    refine RegI.pure 3 [0, 8, 9, 10, 24] [(0, .int .i64 p0), (8, .pointer (some ⟨b8, 0, none⟩)), (9, .int .i64 t19), (10, .int .i64 t24), (24, .bool (decide (p0 < 0)))] (by kernel_rfl) ?_
    obtain ⟨j29, hJ30, h⟩ := of_let h
    have hj31 : ∀ (t26 : Bool) (w28 : World), j29 t26 = some r → Holds M0 w0 w28 [box b8 24 [.int .i64 p0, .int .u8 p1, .int .u8 p2, .int .u16 0, .int .i64 0, .int .i64 0], gl 0 (tab_0.flatMap en_0), gl 1 (tab_1.flatMap en_1)] → RegI F5 20 [.c 21, .c 26] 6 [(8, .pointer (some ⟨b8, 0, none⟩)), (9, .int .i64 t19), (10, .int .i64 t24), (27, .bool t26)] w28 (charabanclaw10_TimesBounds_5.post M0 w0 r) := by
      intro t26 w28 h h27
      rw [hJ30] at h
      clear hJ30
      dsimp only at h
      refine RegI.done (by kernel_rfl) ?_
      rcases of_cond h with ⟨hc32, h⟩ | ⟨hc32, h⟩
      · skip
        refine RunsI.fix 27 true hc32 (by kernel_rfl) (by kernel_rfl) ?_
        refine RunsI.cond true 22 (by kernel_rfl) ?_
        refine RunsI.go 1 [.c 23, .c 24, .c 26] (by kernel_rfl) ?_
        refine RunsI.region (by kernel_rfl) ?_
        refine RegI.pure 3 [10, 30] [(10, .int .i64 t24), (30, .bool (t19 == 0))] (by kernel_rfl) ?_
        rcases of_cond h with ⟨hc33, h⟩ | ⟨hc33, h⟩
        · skip
          refine RegI.fix 30 true hc33 (by kernel_rfl) (by kernel_rfl) ?_
          refine RegI.pure 4 [6] [(6, .bool (t24 == 0))] (by kernel_rfl) ?_
          refine RegI.done (by kernel_rfl) ?_
          refine RunsI.ret (.bool (t24 == 0)) (by kernel_rfl) (by kernel_rfl) ?_
          obtain rfl := Option.some.inj h
          exact ⟨rfl, h27.below⟩
        · skip
          refine RegI.fix 30 false hc33 (by kernel_rfl) (by kernel_rfl) ?_
          refine RegI.pure 4 [6] [(6, .bool false)] (by kernel_rfl) ?_
          refine RegI.done (by kernel_rfl) ?_
          refine RunsI.ret (.bool false) (by kernel_rfl) (by kernel_rfl) ?_
          obtain rfl := Option.some.inj h
          exact ⟨rfl, h27.below⟩
      · skip
        refine RunsI.fix 27 false hc32 (by kernel_rfl) (by kernel_rfl) ?_
        refine RunsI.cond false 25 (by kernel_rfl) ?_
        refine RunsI.go 1 [.c 26] (by kernel_rfl) ?_
        refine RunsI.go 1 [.c 27, .c 28] (by kernel_rfl) ?_
        refine RunsI.region (by kernel_rfl) ?_
        refine RegI.pure 1 [8, 9, 10, 34] [(8, .pointer (some ⟨b8, 0, none⟩)), (9, .int .i64 t19), (10, .int .i64 t24), (34, .pointer (some ⟨b8, 5, none⟩))] (by kernel_rfl) ?_
        refine RegI.op (by kernel_rfl) (OpE.storeBox 0 3 b8 5 (.int .i64 2) [.int .i64 p0, .int .u8 p1, .int .u8 p2, .int .u16 0, .int .i64 0, .int .i64 2] h27 (by kernel_rfl) (by kernel_rfl) rfl (by kernel_rfl) (by kernel_rfl) (by kernel_rfl) ?_)
        intro w34 h35 hk36
        refine RegI.done (by kernel_rfl) ?_
        refine RunsI.go 2 [.c 30, .c 31, .c 36] (by kernel_rfl) ?_
        refine RunsI.region (by kernel_rfl) ?_
        refine RegI.pure 3 [8, 9, 10, 37] [(8, .pointer (some ⟨b8, 0, none⟩)), (9, .int .i64 t19), (10, .int .i64 t24), (37, .bool (decide (t19 < 4)))] (by kernel_rfl) ?_
        obtain ⟨j47, hJ48, h⟩ := of_let h
        have hj49 : ∀ (t44 : Bool) (w46 : World), j47 t44 = some r → Holds M0 w0 w46 [box b8 24 [.int .i64 p0, .int .u8 p1, .int .u8 p2, .int .u16 0, .int .i64 0, .int .i64 2], gl 0 (tab_0.flatMap en_0), gl 1 (tab_1.flatMap en_1)] → RegI F5 30 [.c 31, .c 36] 13 [(8, .pointer (some ⟨b8, 0, none⟩)), (9, .int .i64 t19), (10, .int .i64 t24), (47, .bool t44)] w46 (charabanclaw10_TimesBounds_5.post M0 w0 r) := by
          intro t44 w46 h h45
          rw [hJ48] at h
          clear hJ48
          dsimp only at h
          refine RegI.done (by kernel_rfl) ?_
          rcases of_cond h with ⟨hc50, h⟩ | ⟨hc50, h⟩
          · skip
            refine RunsI.fix 47 true hc50 (by kernel_rfl) (by kernel_rfl) ?_
            refine RunsI.cond true 32 (by kernel_rfl) ?_
            refine RunsI.go 1 [.c 33, .c 34, .c 36] (by kernel_rfl) ?_
            refine RunsI.region (by kernel_rfl) ?_
            refine RegI.pure 1 [6] [(6, .bool false)] (by kernel_rfl) ?_
            refine RegI.done (by kernel_rfl) ?_
            refine RunsI.ret (.bool false) (by kernel_rfl) (by kernel_rfl) ?_
            obtain rfl := Option.some.inj h
            exact ⟨rfl, h45.below⟩
          · skip
            refine RunsI.fix 47 false hc50 (by kernel_rfl) (by kernel_rfl) ?_
            refine RunsI.cond false 35 (by kernel_rfl) ?_
            refine RunsI.go 1 [.c 36] (by kernel_rfl) ?_
            refine RunsI.go 1 [.c 37, .c 38] (by kernel_rfl) ?_
            refine RunsI.region (by kernel_rfl) ?_
            refine RegI.pure 4 [8, 9, 10, 51] [(8, .pointer (some ⟨b8, 0, none⟩)), (9, .int .i64 t19), (10, .int .i64 t24), (51, .bool (t24 == t19))] (by kernel_rfl) ?_
            rcases of_cond h with ⟨hc51, h⟩ | ⟨hc51, h⟩
            · skip
              refine RegI.fix 51 true hc51 (by kernel_rfl) (by kernel_rfl) ?_
              refine RegI.op (by kernel_rfl) (OpE.loadBox 52 0 24 b8 0 (.agg #[.int .i64 p0, .int .u8 p1, .int .u8 p2, .int .u16 0, .int .i64 0, .int .i64 2]) h45 (by kernel_rfl) (by kernel_rfl) rfl (by kernel_rfl) ?_)
              obtain ⟨t56, hg55, h⟩ := of_bind h
              refine RegI.op (by kernel_rfl) (OpE.call 53 (by kernel_rfl) 11 #[.agg #[.int .i64 p0, .int .u8 p1, .int .u8 p2, .int .u16 0, .int .i64 0, .int .i64 2]] (by kernel_rfl) ((times_Asks_11_ok K _ w46  p0 p1 p2 0 0 2 h45.old' (h45.get 1 rfl) (h45.get 2 rfl) hg55).mono ?_))
              rintro _ w52 ⟨rfl, hb53⟩
              refine ⟨_, rfl, ?_⟩
              have h54 := h45.call hb53
              refine RegI.pure 3 [8, 9, 10, 56] [(8, .pointer (some ⟨b8, 0, none⟩)), (9, .int .i64 t19), (10, .int .i64 t24), (56, .bool (!t56))] (by kernel_rfl) ?_
              rcases of_cond h with ⟨hc57, h⟩ | ⟨hc57, h⟩
              · skip
                refine RegI.fix 56 true hc57 (by kernel_rfl) (by kernel_rfl) ?_
                refine RegI.pure 16 [6] [(6, .bool true)] (by kernel_rfl) ?_
                refine RegI.done (by kernel_rfl) ?_
                refine RunsI.ret (.bool true) (by kernel_rfl) (by kernel_rfl) ?_
                obtain rfl := Option.some.inj h
                exact ⟨rfl, h54.below⟩
              · skip
                refine RegI.fix 56 false hc57 (by kernel_rfl) (by kernel_rfl) ?_
                refine RegI.pure 5 [8, 9, 10, 56, 61] [(8, .pointer (some ⟨b8, 0, none⟩)), (9, .int .i64 t19), (10, .int .i64 t24), (56, .bool false), (61, .bool (decide ((IntKind.wrap .i64 (t24 - t19)) ≥ 5)))] (by kernel_rfl) ?_
                rcases of_cond h with ⟨hc58, h⟩ | ⟨hc58, h⟩
                · skip
                  refine RegI.fix 61 true hc58 (by kernel_rfl) (by kernel_rfl) ?_
                  refine RegI.pure 6 [8, 56, 67] [(8, .pointer (some ⟨b8, 0, none⟩)), (56, .bool false), (67, .bool (decide ((IntKind.wrap .i64 (t24 - t19)) ≤ 7)))] (by kernel_rfl) ?_
                  rcases of_cond h with ⟨hc59, h⟩ | ⟨hc59, h⟩
                  · skip
                    refine RegI.fix 67 true hc59 (by kernel_rfl) (by kernel_rfl) ?_
                    refine RegI.op (by kernel_rfl) (OpE.loadBox 68 0 24 b8 0 (.agg #[.int .i64 p0, .int .u8 p1, .int .u8 p2, .int .u16 0, .int .i64 0, .int .i64 2]) h54 (by kernel_rfl) (by kernel_rfl) rfl (by kernel_rfl) ?_)
                    obtain ⟨t64, hg63, h⟩ := of_bind h
                    refine RegI.op (by kernel_rfl) (OpE.call 69 (by kernel_rfl) 11 #[.agg #[.int .i64 p0, .int .u8 p1, .int .u8 p2, .int .u16 0, .int .i64 0, .int .i64 2]] (by kernel_rfl) ((times_Asks_11_ok K _ w52  p0 p1 p2 0 0 2 h54.old' (h54.get 1 rfl) (h54.get 2 rfl) hg63).mono ?_))
                    rintro _ w60 ⟨rfl, hb61⟩
                    refine ⟨_, rfl, ?_⟩
                    have h62 := h54.call hb61
                    refine RegI.pure 3 [6] [(6, .bool t64)] (by kernel_rfl) ?_
                    refine RegI.done (by kernel_rfl) ?_
                    refine RunsI.ret (.bool t64) (by kernel_rfl) (by kernel_rfl) ?_
                    obtain rfl := Option.some.inj h
                    exact ⟨rfl, h62.below⟩
                  · skip
                    refine RegI.fix 67 false hc59 (by kernel_rfl) (by kernel_rfl) ?_
                    refine RegI.pure 5 [6] [(6, .bool false)] (by kernel_rfl) ?_
                    refine RegI.done (by kernel_rfl) ?_
                    refine RunsI.ret (.bool false) (by kernel_rfl) (by kernel_rfl) ?_
                    obtain rfl := Option.some.inj h
                    exact ⟨rfl, h54.below⟩
                · skip
                  refine RegI.fix 61 false hc58 (by kernel_rfl) (by kernel_rfl) ?_
                  refine RegI.pure 11 [6] [(6, .bool false)] (by kernel_rfl) ?_
                  refine RegI.done (by kernel_rfl) ?_
                  refine RunsI.ret (.bool false) (by kernel_rfl) (by kernel_rfl) ?_
                  obtain rfl := Option.some.inj h
                  exact ⟨rfl, h54.below⟩
            · skip
              refine RegI.fix 51 false hc51 (by kernel_rfl) (by kernel_rfl) ?_
              refine RegI.pure 10 [8, 9, 10, 56, 61] [(8, .pointer (some ⟨b8, 0, none⟩)), (9, .int .i64 t19), (10, .int .i64 t24), (56, .bool false), (61, .bool (decide ((IntKind.wrap .i64 (t24 - t19)) ≥ 5)))] (by kernel_rfl) ?_
              rcases of_cond h with ⟨hc65, h⟩ | ⟨hc65, h⟩
              · skip
                refine RegI.fix 61 true hc65 (by kernel_rfl) (by kernel_rfl) ?_
                refine RegI.pure 6 [8, 56, 67] [(8, .pointer (some ⟨b8, 0, none⟩)), (56, .bool false), (67, .bool (decide ((IntKind.wrap .i64 (t24 - t19)) ≤ 7)))] (by kernel_rfl) ?_
                rcases of_cond h with ⟨hc66, h⟩ | ⟨hc66, h⟩
                · skip
                  refine RegI.fix 67 true hc66 (by kernel_rfl) (by kernel_rfl) ?_
                  refine RegI.op (by kernel_rfl) (OpE.loadBox 68 0 24 b8 0 (.agg #[.int .i64 p0, .int .u8 p1, .int .u8 p2, .int .u16 0, .int .i64 0, .int .i64 2]) h45 (by kernel_rfl) (by kernel_rfl) rfl (by kernel_rfl) ?_)
                  obtain ⟨t71, hg70, h⟩ := of_bind h
                  refine RegI.op (by kernel_rfl) (OpE.call 69 (by kernel_rfl) 11 #[.agg #[.int .i64 p0, .int .u8 p1, .int .u8 p2, .int .u16 0, .int .i64 0, .int .i64 2]] (by kernel_rfl) ((times_Asks_11_ok K _ w46  p0 p1 p2 0 0 2 h45.old' (h45.get 1 rfl) (h45.get 2 rfl) hg70).mono ?_))
                  rintro _ w67 ⟨rfl, hb68⟩
                  refine ⟨_, rfl, ?_⟩
                  have h69 := h45.call hb68
                  refine RegI.pure 3 [6] [(6, .bool t71)] (by kernel_rfl) ?_
                  refine RegI.done (by kernel_rfl) ?_
                  refine RunsI.ret (.bool t71) (by kernel_rfl) (by kernel_rfl) ?_
                  obtain rfl := Option.some.inj h
                  exact ⟨rfl, h69.below⟩
                · skip
                  refine RegI.fix 67 false hc66 (by kernel_rfl) (by kernel_rfl) ?_
                  refine RegI.pure 5 [6] [(6, .bool false)] (by kernel_rfl) ?_
                  refine RegI.done (by kernel_rfl) ?_
                  refine RunsI.ret (.bool false) (by kernel_rfl) (by kernel_rfl) ?_
                  obtain rfl := Option.some.inj h
                  exact ⟨rfl, h45.below⟩
              · skip
                refine RegI.fix 61 false hc65 (by kernel_rfl) (by kernel_rfl) ?_
                refine RegI.pure 11 [6] [(6, .bool false)] (by kernel_rfl) ?_
                refine RegI.done (by kernel_rfl) ?_
                refine RunsI.ret (.bool false) (by kernel_rfl) (by kernel_rfl) ?_
                obtain rfl := Option.some.inj h
                exact ⟨rfl, h45.below⟩
        clear hJ48
        rcases of_cond h with ⟨hc37, h⟩ | ⟨hc37, h⟩
        · skip
          refine RegI.fix 37 true hc37 (by kernel_rfl) (by kernel_rfl) ?_
          refine RegI.pure 10 [8, 9, 10, 47] [(8, .pointer (some ⟨b8, 0, none⟩)), (9, .int .i64 t19), (10, .int .i64 t24), (47, .bool true)] (by kernel_rfl) ?_
          refine RegI.only [8, 9, 10, 47] [(8, .pointer (some ⟨b8, 0, none⟩)), (9, .int .i64 t19), (10, .int .i64 t24), (47, .bool true)] (by kernel_rfl) (by kernel_rfl) ?_
          exact hj49 true w34 h (h35.pick [0, 1, 2] (by decide))
        · skip
          refine RegI.fix 37 false hc37 (by kernel_rfl) (by kernel_rfl) ?_
          refine RegI.pure 4 [8, 9, 10, 41] [(8, .pointer (some ⟨b8, 0, none⟩)), (9, .int .i64 t19), (10, .int .i64 t24), (41, .bool (decide (t19 > 23)))] (by kernel_rfl) ?_
          rcases of_cond h with ⟨hc38, h⟩ | ⟨hc38, h⟩
          · skip
            refine RegI.fix 41 true hc38 (by kernel_rfl) (by kernel_rfl) ?_
            refine RegI.pure 6 [8, 9, 10, 47] [(8, .pointer (some ⟨b8, 0, none⟩)), (9, .int .i64 t19), (10, .int .i64 t24), (47, .bool true)] (by kernel_rfl) ?_
            refine RegI.only [8, 9, 10, 47] [(8, .pointer (some ⟨b8, 0, none⟩)), (9, .int .i64 t19), (10, .int .i64 t24), (47, .bool true)] (by kernel_rfl) (by kernel_rfl) ?_
            exact hj49 true w34 h (h35.pick [0, 1, 2] (by decide))
          · skip
            refine RegI.fix 41 false hc38 (by kernel_rfl) (by kernel_rfl) ?_
            refine RegI.op (by kernel_rfl) (OpE.loadBox 42 0 24 b8 0 (.agg #[.int .i64 p0, .int .u8 p1, .int .u8 p2, .int .u16 0, .int .i64 0, .int .i64 2]) h35 (by kernel_rfl) (by kernel_rfl) rfl (by kernel_rfl) ?_)
            obtain ⟨t43, hg42, h⟩ := of_bind h
            refine RegI.op (by kernel_rfl) (OpE.call 43 (by kernel_rfl) 9 #[.agg #[.int .i64 p0, .int .u8 p1, .int .u8 p2, .int .u16 0, .int .i64 0, .int .i64 2], .bool false] (by kernel_rfl) ((times_Of_9_ok K _ w34  p0 p1 p2 0 0 2 false h35.old' (h35.get 1 rfl) (h35.get 2 rfl) hg42).mono ?_))
            rintro _ w39 ⟨rfl, hb40⟩
            refine ⟨_, rfl, ?_⟩
            have h41 := h35.call hb40
            refine RegI.pure 4 [8, 9, 10, 47] [(8, .pointer (some ⟨b8, 0, none⟩)), (9, .int .i64 t19), (10, .int .i64 t24), (47, .bool (t43 != (IntKind.wrap .i64 (t19 + 8))))] (by kernel_rfl) ?_
            refine RegI.only [8, 9, 10, 47] [(8, .pointer (some ⟨b8, 0, none⟩)), (9, .int .i64 t19), (10, .int .i64 t24), (47, .bool (t43 != (IntKind.wrap .i64 (t19 + 8))))] (by kernel_rfl) (by kernel_rfl) ?_
            exact hj49 (t43 != (IntKind.wrap .i64 (t19 + 8))) w39 h (h41.pick [0, 1, 2] (by decide))
    clear hJ30
    rcases of_cond h with ⟨hc25, h⟩ | ⟨hc25, h⟩
    · skip
      refine RegI.fix 24 true hc25 (by kernel_rfl) (by kernel_rfl) ?_
      refine RegI.pure 3 [8, 9, 10, 27] [(8, .pointer (some ⟨b8, 0, none⟩)), (9, .int .i64 t19), (10, .int .i64 t24), (27, .bool true)] (by kernel_rfl) ?_
      refine RegI.only [8, 9, 10, 27] [(8, .pointer (some ⟨b8, 0, none⟩)), (9, .int .i64 t19), (10, .int .i64 t24), (27, .bool true)] (by kernel_rfl) (by kernel_rfl) ?_
      exact hj31 true w20 h (h22.pick [2, 0, 1] (by decide))
    · skip
      refine RegI.fix 24 false hc25 (by kernel_rfl) (by kernel_rfl) ?_
      refine RegI.pure 3 [8, 9, 10, 27] [(8, .pointer (some ⟨b8, 0, none⟩)), (9, .int .i64 t19), (10, .int .i64 t24), (27, .bool (decide (p0 > 6)))] (by kernel_rfl) ?_
      refine RegI.only [8, 9, 10, 27] [(8, .pointer (some ⟨b8, 0, none⟩)), (9, .int .i64 t19), (10, .int .i64 t24), (27, .bool (decide (p0 > 6)))] (by kernel_rfl) (by kernel_rfl) ?_
      exact hj31 (decide (p0 > 6)) w20 h (h22.pick [2, 0, 1] (by decide))
end
end Go.Proofs.YtmcdkmakjjlcnaaDoor.Tim
