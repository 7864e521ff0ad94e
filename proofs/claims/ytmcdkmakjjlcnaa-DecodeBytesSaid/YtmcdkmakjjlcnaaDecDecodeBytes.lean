/- The statement's function DecodeBytes as a plain Lean function; written by wip/eng.py. -/
import Derived.Test.YtmcdkmakjjlcnaaDec3
set_option linter.unusedVariables false
set_option linter.unusedSimpArgs false
set_option maxHeartbeats 4000000
namespace Go.Proofs.Ytmcdkmakjjlcnaa.Dec
open Go.RowKit Go.Eng
noncomputable def B5 : Code := (Try.f5.body).getD .skip
noncomputable def F5 : Fun Try.prog := ⟨5, Try.f5, B5, 132, Try.func5, by kernel_rfl, by kernel_rfl, [], none⟩

/-! ### charabanc/charabanclaw08.DecodeBytes (function 5) -/
section
def charabanclaw08_DecodeBytes_5.post (M0 : Nat → Prop) (w0 : World) (r : Bool) : Ending → World → Prop := fun e w => e = .returned (.bool r) ∧ Below w0.heap.size w0 w
def charabanclaw08_DecodeBytes_5.f (K : Nat) (p0_0 : Int) (p0_1 : Int) (p0_2 : Int) (p0_3 : Int) (p0_4 : Int) (p0_5 : Int) (p1 : List Int) : Option Bool := (charabanclaw08_awake_8.f K).bind fun t10 => cond (!t10) (some false) (cond (decide ((p1.length : Int) > 100)) (some true) ((decode_Bytes_20.f K p0_0 p0_1 p0_2 p0_3 p0_4 p0_5).bind fun t17 => (charabancref08_Bytes_21.f K p0_0 p0_1 p0_2 p0_3 p0_4 p0_5).bind fun t26 => cond (!((ByteArray.toList (strOf t17)) == (ByteArray.toList (strOf t26)))) (some false) ((charabancref08_Bare_22.f K p0_0 p0_1 p0_2 p0_3 p0_4 p0_5).bind fun t36 => cond (!t36) (some true) (cond (mayBe (([] : List Int).length + t17.length) 1) (cond (mayBe ((([] : List Int) ++ t17).length + p1.length) 1) ((decode_Next_15.f K ((([] : List Int) ++ t17) ++ p1)).bind fun yt55 => (decode_Near_13.f K p0_0 p0_1).bind fun t74 => (decode_Size_11.f K p0_0 p0_1).bind fun t79 => cond yt55.2.2.2.2.2.2 (cond (yt55.1 == p0_0) (cond (yt55.2.1 == p0_1) (cond (yt55.2.2.2.2.1 == (t17.length : Int)) (cond (yt55.2.2.2.2.2.1 == 0) (cond (!t74) (cond t74 (cond (t79 != 2) (cond (t79 != 1) (cond (t79 != 0) (some true) (some (yt55.2.2.2.1 == 0))) (cond (yt55.2.2.2.1 == (Int.tmod p0_3 256)) (cond (t79 != 0) (some true) (some (yt55.2.2.2.1 == 0))) (some false))) (cond (yt55.2.2.2.1 == p0_3) (cond (t79 != 1) (cond (t79 != 0) (some true) (some (yt55.2.2.2.1 == 0))) (cond (yt55.2.2.2.1 == (Int.tmod p0_3 256)) (cond (t79 != 0) (some true) (some (yt55.2.2.2.1 == 0))) (some false))) (some false))) (cond (yt55.2.2.1 == 0) (cond (t79 != 2) (cond (t79 != 1) (cond (t79 != 0) (some true) (some (yt55.2.2.2.1 == 0))) (cond (yt55.2.2.2.1 == (Int.tmod p0_3 256)) (cond (t79 != 0) (some true) (some (yt55.2.2.2.1 == 0))) (some false))) (cond (yt55.2.2.2.1 == p0_3) (cond (t79 != 1) (cond (t79 != 0) (some true) (some (yt55.2.2.2.1 == 0))) (cond (yt55.2.2.2.1 == (Int.tmod p0_3 256)) (cond (t79 != 0) (some true) (some (yt55.2.2.2.1 == 0))) (some false))) (some false))) (some false))) (cond (yt55.2.2.1 == p0_2) (cond t74 (cond (t79 != 2) (cond (t79 != 1) (cond (t79 != 0) (some true) (some (yt55.2.2.2.1 == 0))) (cond (yt55.2.2.2.1 == (Int.tmod p0_3 256)) (cond (t79 != 0) (some true) (some (yt55.2.2.2.1 == 0))) (some false))) (cond (yt55.2.2.2.1 == p0_3) (cond (t79 != 1) (cond (t79 != 0) (some true) (some (yt55.2.2.2.1 == 0))) (cond (yt55.2.2.2.1 == (Int.tmod p0_3 256)) (cond (t79 != 0) (some true) (some (yt55.2.2.2.1 == 0))) (some false))) (some false))) (cond (yt55.2.2.1 == 0) (cond (t79 != 2) (cond (t79 != 1) (cond (t79 != 0) (some true) (some (yt55.2.2.2.1 == 0))) (cond (yt55.2.2.2.1 == (Int.tmod p0_3 256)) (cond (t79 != 0) (some true) (some (yt55.2.2.2.1 == 0))) (some false))) (cond (yt55.2.2.2.1 == p0_3) (cond (t79 != 1) (cond (t79 != 0) (some true) (some (yt55.2.2.2.1 == 0))) (cond (yt55.2.2.2.1 == (Int.tmod p0_3 256)) (cond (t79 != 0) (some true) (some (yt55.2.2.2.1 == 0))) (some false))) (some false))) (some false))) (some false))) (some false)) (some false)) (some false)) (some false)) (some false)) none) none))))
set_option maxRecDepth 100000 in
theorem charabanclaw08_DecodeBytes_5_ok (K : Nat) (M0 : Nat → Prop) (w0 : World) (pA1 : Option Addr) (pc1 : Nat) (p0_0 : Int) (p0_1 : Int) (p0_2 : Int) (p0_3 : Int) (p0_4 : Int) (p0_5 : Int) (p1 : List Int) (ho : ∀ b, M0 b → b < w0.heap.size) (hs1 : Sl (Rp.int .u8) w0 M0 (.slice pA1 p1.length pc1) p1) {r : Bool} (h : charabanclaw08_DecodeBytes_5.f K p0_0 p0_1 p0_2 p0_3 p0_4 p0_5 p1 = some r) :
    Calls Try.prog 5 #[.agg #[.int .i64 p0_0, .int .u8 p0_1, .int .u8 p0_2, .int .u16 p0_3, .int .i64 p0_4, .int .i64 p0_5], .slice pA1 p1.length pc1] w0 (charabanclaw08_DecodeBytes_5.post M0 w0 r) := by
  unfold charabanclaw08_DecodeBytes_5.f at h
  have h0 : Holds M0 w0 w0 [] := Holds.start ho
  have h01 := h0.addSl (Rp.int .u8) (.slice pA1 p1.length pc1) p1 (hs1.mono (fun _ _ hm => hm.elim id (fun hm => absurd hm (by simp [mines, sl]))))
  have h0 : Holds M0 w0 w0 [sl (Rp.int .u8) (.slice pA1 p1.length pc1) p1] := h01
  refine calls_of F5 rfl [.agg #[.int .i64 p0_0, .int .u8 p0_1, .int .u8 p0_2, .int .u16 p0_3, .int .i64 p0_4, .int .i64 p0_5], .slice pA1 p1.length pc1] (by kernel_rfl) ?_
  refine RunsI.go 1 [.c 1, .c 2] (by kernel_rfl) ?_
  refine RunsI.region (by kernel_rfl) ?_
  refine RegI.op (by kernel_rfl) (OpE.box 2 30 [.int .i64 p0_0, .int .u8 p0_1, .int .u8 p0_2, .int .u16 p0_3, .int .i64 p0_4, .int .i64 p0_5] h0 (by kernel_rfl) (by kernel_rfl) ?_)
  intro w1 b2 h3 hb4 hn5
  refine RegI.pure 1 [1, 2] [(1, .slice pA1 p1.length pc1), (2, .pointer (some ⟨b2, 0, none⟩))] (by kernel_rfl) ?_
  refine RegI.done (by kernel_rfl) ?_
  refine RunsI.go 1 [.c 3, .c 4] (by kernel_rfl) ?_
  refine RunsI.region (by kernel_rfl) ?_
  obtain ⟨t10, hg9, h⟩ := of_bind h
  refine RegI.op (by kernel_rfl) (OpE.call 14 (by kernel_rfl) 8 #[] (by kernel_rfl) ((charabanclaw08_awake_8_ok K _ w1  h3.old' hg9).mono ?_))
  rintro _ w6 ⟨rfl, hb7⟩
  refine ⟨_, rfl, ?_⟩
  have h8 := h3.call hb7
  refine RegI.pure 1 [1, 2, 5] [(1, .slice pA1 p1.length pc1), (2, .pointer (some ⟨b2, 0, none⟩)), (5, .bool t10)] (by kernel_rfl) ?_
  refine RegI.done (by kernel_rfl) ?_
  refine RunsI.go 2 [.c 6, .c 7, .c 12] (by kernel_rfl) ?_
  refine RunsI.region (by kernel_rfl) ?_
  refine RegI.pure 2 [1, 2, 16] [(1, .slice pA1 p1.length pc1), (2, .pointer (some ⟨b2, 0, none⟩)), (16, .bool (!t10))] (by kernel_rfl) ?_
  refine RegI.done (by kernel_rfl) ?_
  rcases of_cond h with ⟨hc11, h⟩ | ⟨hc11, h⟩
  · skip
    refine RunsI.fix 16 true hc11 (by kernel_rfl) (by kernel_rfl) ?_
    refine RunsI.cond true 8 (by kernel_rfl) ?_
    refine RunsI.go 1 [.c 9, .c 10, .c 12] (by kernel_rfl) ?_
    refine RunsI.region (by kernel_rfl) ?_
    refine RegI.pure 1 [4] [(4, .bool false)] (by kernel_rfl) ?_
    refine RegI.done (by kernel_rfl) ?_
    refine RunsI.ret (.bool false) (by kernel_rfl) (by kernel_rfl) ?_
    obtain rfl := Option.some.inj h
    exact ⟨rfl, h8.below⟩
  · skip
    refine RunsI.fix 16 false hc11 (by kernel_rfl) (by kernel_rfl) ?_
    refine RunsI.cond false 11 (by kernel_rfl) ?_
    refine RunsI.go 1 [.c 12] (by kernel_rfl) ?_
    refine RunsI.go 2 [.c 14, .c 15, .c 20] (by kernel_rfl) ?_
    refine RunsI.region (by kernel_rfl) ?_
    refine RegI.pure 3 [1, 2, 19] [(1, .slice pA1 p1.length pc1), (2, .pointer (some ⟨b2, 0, none⟩)), (19, .bool (decide ((p1.length : Int) > 100)))] (by kernel_rfl) ?_
    refine RegI.done (by kernel_rfl) ?_
    rcases of_cond h with ⟨hc12, h⟩ | ⟨hc12, h⟩
    · skip
      refine RunsI.fix 19 true hc12 (by kernel_rfl) (by kernel_rfl) ?_
      refine RunsI.cond true 16 (by kernel_rfl) ?_
      refine RunsI.go 1 [.c 17, .c 18, .c 20] (by kernel_rfl) ?_
      refine RunsI.region (by kernel_rfl) ?_
      refine RegI.pure 1 [4] [(4, .bool true)] (by kernel_rfl) ?_
      refine RegI.done (by kernel_rfl) ?_
      refine RunsI.ret (.bool true) (by kernel_rfl) (by kernel_rfl) ?_
      obtain rfl := Option.some.inj h
      exact ⟨rfl, h8.below⟩
    · skip
      refine RunsI.fix 19 false hc12 (by kernel_rfl) (by kernel_rfl) ?_
      refine RunsI.cond false 19 (by kernel_rfl) ?_
      refine RunsI.go 1 [.c 20] (by kernel_rfl) ?_
      refine RunsI.go 1 [.c 21, .c 22] (by kernel_rfl) ?_
      refine RunsI.region (by kernel_rfl) ?_
      refine RegI.op (by kernel_rfl) (OpE.loadBox 20 1 30 b2 0 (.agg #[.int .i64 p0_0, .int .u8 p0_1, .int .u8 p0_2, .int .u16 p0_3, .int .i64 p0_4, .int .i64 p0_5]) h8 (by kernel_rfl) (by kernel_rfl) rfl (by kernel_rfl) ?_)
      obtain ⟨t17, hg16, h⟩ := of_bind h
      refine RegI.op (by kernel_rfl) (OpE.call 21 (by kernel_rfl) 20 #[.agg #[.int .i64 p0_0, .int .u8 p0_1, .int .u8 p0_2, .int .u16 p0_3, .int .i64 p0_4, .int .i64 p0_5]] (by kernel_rfl) ((decode_Bytes_20_ok K _ w6  p0_0 p0_1 p0_2 p0_3 p0_4 p0_5 h8.old' hg16).mono ?_))
      rintro _ w13 ⟨A18, c19, rfl, hr21⟩
      refine ⟨_, rfl, ?_⟩
      have hb14 := hr21.below
      have h15 := h8.join hr21
      refine RegI.pure 1 [1, 2, 6] [(1, .slice pA1 p1.length pc1), (2, .pointer (some ⟨b2, 0, none⟩)), (6, .slice A18 t17.length c19)] (by kernel_rfl) ?_
      refine RegI.done (by kernel_rfl) ?_
      refine RunsI.go 1 [.c 23, .c 24] (by kernel_rfl) ?_
      refine RunsI.region (by kernel_rfl) ?_
      refine RegI.op (by kernel_rfl) (OpE.loadBox 22 1 30 b2 0 (.agg #[.int .i64 p0_0, .int .u8 p0_1, .int .u8 p0_2, .int .u16 p0_3, .int .i64 p0_4, .int .i64 p0_5]) h15 (by kernel_rfl) (by kernel_rfl) rfl (by kernel_rfl) ?_)
      obtain ⟨t26, hg25, h⟩ := of_bind h
      refine RegI.op (by kernel_rfl) (OpE.call 23 (by kernel_rfl) 21 #[.agg #[.int .i64 p0_0, .int .u8 p0_1, .int .u8 p0_2, .int .u16 p0_3, .int .i64 p0_4, .int .i64 p0_5]] (by kernel_rfl) ((charabancref08_Bytes_21_ok K _ w13  p0_0 p0_1 p0_2 p0_3 p0_4 p0_5 h15.old' hg25).mono ?_))
      rintro _ w22 ⟨A27, c28, rfl, hr30⟩
      refine ⟨_, rfl, ?_⟩
      have hb23 := hr30.below
      have h24 := h15.join hr30
      refine RegI.pure 1 [1, 2, 6, 7] [(1, .slice pA1 p1.length pc1), (2, .pointer (some ⟨b2, 0, none⟩)), (6, .slice A18 t17.length c19), (7, .slice A27 t26.length c28)] (by kernel_rfl) ?_
      refine RegI.done (by kernel_rfl) ?_
      refine RunsI.go 2 [.c 26, .c 27, .c 32] (by kernel_rfl) ?_
      refine RunsI.region (by kernel_rfl) ?_
      refine RegI.pure 1 [1, 2, 6, 7, 24] [(1, .slice pA1 p1.length pc1), (2, .pointer (some ⟨b2, 0, none⟩)), (6, .slice A18 t17.length c19), (7, .slice A27 t26.length c28), (24, .slice A18 t17.length c19)] (by kernel_rfl) ?_
      refine RegI.op (by kernel_rfl) (OpE.run 25 (by kernel_rfl) (run_toStr (s := 27) (d := 9) (v := .slice A18 t17.length c19) (by kernel_rfl) (by kernel_rfl) (h24.rdOwn 2 rfl)) ?_)
      refine RegI.pure 1 [1, 2, 6, 25, 26] [(1, .slice pA1 p1.length pc1), (2, .pointer (some ⟨b2, 0, none⟩)), (6, .slice A18 t17.length c19), (25, .string (strOf t17)), (26, .slice A27 t26.length c28)] (by kernel_rfl) ?_
      refine RegI.op (by kernel_rfl) (OpE.run 27 (by kernel_rfl) (run_toStr (s := 27) (d := 9) (v := .slice A27 t26.length c28) (by kernel_rfl) (by kernel_rfl) (h24.rdOwn 3 rfl)) ?_)
      refine RegI.pure 1 [1, 2, 6, 28] [(1, .slice pA1 p1.length pc1), (2, .pointer (some ⟨b2, 0, none⟩)), (6, .slice A18 t17.length c19), (28, .bool (!((ByteArray.toList (strOf t17)) == (ByteArray.toList (strOf t26)))))] (by kernel_rfl) ?_
      refine RegI.done (by kernel_rfl) ?_
      rcases of_cond h with ⟨hc31, h⟩ | ⟨hc31, h⟩
      · skip
        refine RunsI.fix 28 true hc31 (by kernel_rfl) (by kernel_rfl) ?_
        refine RunsI.cond true 28 (by kernel_rfl) ?_
        refine RunsI.go 1 [.c 29, .c 30, .c 32] (by kernel_rfl) ?_
        refine RunsI.region (by kernel_rfl) ?_
        refine RegI.pure 1 [4] [(4, .bool false)] (by kernel_rfl) ?_
        refine RegI.done (by kernel_rfl) ?_
        refine RunsI.ret (.bool false) (by kernel_rfl) (by kernel_rfl) ?_
        obtain rfl := Option.some.inj h
        exact ⟨rfl, h24.below⟩
      · skip
        refine RunsI.fix 28 false hc31 (by kernel_rfl) (by kernel_rfl) ?_
        refine RunsI.cond false 31 (by kernel_rfl) ?_
        refine RunsI.go 1 [.c 32] (by kernel_rfl) ?_
        refine RunsI.go 1 [.c 33, .c 34] (by kernel_rfl) ?_
        refine RunsI.region (by kernel_rfl) ?_
        refine RegI.op (by kernel_rfl) (OpE.loadBox 29 1 30 b2 0 (.agg #[.int .i64 p0_0, .int .u8 p0_1, .int .u8 p0_2, .int .u16 p0_3, .int .i64 p0_4, .int .i64 p0_5]) h24 (by kernel_rfl) (by kernel_rfl) rfl (by kernel_rfl) ?_)
        obtain ⟨t36, hg35, h⟩ := of_bind h
        refine RegI.op (by kernel_rfl) (OpE.call 30 (by kernel_rfl) 22 #[.agg #[.int .i64 p0_0, .int .u8 p0_1, .int .u8 p0_2, .int .u16 p0_3, .int .i64 p0_4, .int .i64 p0_5]] (by kernel_rfl) ((charabancref08_Bare_22_ok K _ w22  p0_0 p0_1 p0_2 p0_3 p0_4 p0_5 h24.old' hg35).mono ?_))
        rintro _ w32 ⟨rfl, hb33⟩
        refine ⟨_, rfl, ?_⟩
        have h34 := h24.call hb33
        refine RegI.pure 1 [1, 2, 6, 8] [(1, .slice pA1 p1.length pc1), (2, .pointer (some ⟨b2, 0, none⟩)), (6, .slice A18 t17.length c19), (8, .bool t36)] (by kernel_rfl) ?_
        refine RegI.done (by kernel_rfl) ?_
        refine RunsI.go 2 [.c 36, .c 37, .c 42] (by kernel_rfl) ?_
        refine RunsI.region (by kernel_rfl) ?_
        refine RegI.pure 2 [1, 2, 6, 32] [(1, .slice pA1 p1.length pc1), (2, .pointer (some ⟨b2, 0, none⟩)), (6, .slice A18 t17.length c19), (32, .bool (!t36))] (by kernel_rfl) ?_
        refine RegI.done (by kernel_rfl) ?_
        rcases of_cond h with ⟨hc37, h⟩ | ⟨hc37, h⟩
        · skip
          refine RunsI.fix 32 true hc37 (by kernel_rfl) (by kernel_rfl) ?_
          refine RunsI.cond true 38 (by kernel_rfl) ?_
          refine RunsI.go 1 [.c 39, .c 40, .c 42] (by kernel_rfl) ?_
          refine RunsI.region (by kernel_rfl) ?_
          refine RegI.pure 1 [4] [(4, .bool true)] (by kernel_rfl) ?_
          refine RegI.done (by kernel_rfl) ?_
          refine RunsI.ret (.bool true) (by kernel_rfl) (by kernel_rfl) ?_
          obtain rfl := Option.some.inj h
          exact ⟨rfl, h34.below⟩
        · skip
          refine RunsI.fix 32 false hc37 (by kernel_rfl) (by kernel_rfl) ?_
          refine RunsI.cond false 41 (by kernel_rfl) ?_
          refine RunsI.go 1 [.c 42] (by kernel_rfl) ?_
          refine RunsI.go 1 [.c 43, .c 44] (by kernel_rfl) ?_
          refine RunsI.region (by kernel_rfl) ?_
          refine RegI.pure 1 [1, 2, 6, 9] [(1, .slice pA1 p1.length pc1), (2, .pointer (some ⟨b2, 0, none⟩)), (6, .slice A18 t17.length c19), (9, .slice none 0 0)] (by kernel_rfl) ?_
          refine RegI.done (by kernel_rfl) ?_
          refine RunsI.go 1 [.c 45, .c 46] (by kernel_rfl) ?_
          refine RunsI.region (by kernel_rfl) ?_
          refine RegI.pure 2 [1, 2, 6, 33, 34] [(1, .slice pA1 p1.length pc1), (2, .pointer (some ⟨b2, 0, none⟩)), (6, .slice A18 t17.length c19), (33, .slice none 0 0), (34, .slice A18 t17.length c19)] (by kernel_rfl) ?_
          have h38 := h34.addOwnNil (Rp.int .u8) 5
          obtain ⟨hc39, h⟩ := of_cond0 h
          refine RegI.op (by kernel_rfl) (OpE.appendRow 35 4 27 5 1 (ys := t17) h38 (by kernel_rfl) (by kernel_rfl) (by kernel_rfl) rfl (h38.rdOwn 2 rfl) hc39 ?_)
          intro w40 A41 c42 h43 hk44
          refine RegI.pure 1 [1, 2, 6, 9] [(1, .slice pA1 p1.length pc1), (2, .pointer (some ⟨b2, 0, none⟩)), (6, .slice A18 t17.length c19), (9, .slice A41 ((([] : List Int) ++ t17).length) c42)] (by kernel_rfl) ?_
          refine RegI.done (by kernel_rfl) ?_
          refine RunsI.go 1 [.c 47, .c 48] (by kernel_rfl) ?_
          refine RunsI.region (by kernel_rfl) ?_
          refine RegI.pure 2 [2, 6, 36, 37] [(2, .pointer (some ⟨b2, 0, none⟩)), (6, .slice A18 t17.length c19), (36, .slice A41 ((([] : List Int) ++ t17).length) c42), (37, .slice pA1 p1.length pc1)] (by kernel_rfl) ?_
          obtain ⟨hc45, h⟩ := of_cond0 h
          refine RegI.op (by kernel_rfl) (OpE.appendRow 38 4 27 5 1 (ys := p1) h43 (by kernel_rfl) (by kernel_rfl) (by kernel_rfl) rfl (h43.rdSl 0 rfl) hc45 ?_)
          intro w46 A47 c48 h49 hk50
          refine RegI.pure 1 [2, 6, 9] [(2, .pointer (some ⟨b2, 0, none⟩)), (6, .slice A18 t17.length c19), (9, .slice A47 (((([] : List Int) ++ t17) ++ p1).length) c48)] (by kernel_rfl) ?_
          refine RegI.done (by kernel_rfl) ?_
          refine RunsI.go 1 [.c 49, .c 50] (by kernel_rfl) ?_
          refine RunsI.region (by kernel_rfl) ?_
          refine RegI.pure 1 [2, 6, 40] [(2, .pointer (some ⟨b2, 0, none⟩)), (6, .slice A18 t17.length c19), (40, .slice A47 (((([] : List Int) ++ t17) ++ p1).length) c48)] (by kernel_rfl) ?_
          obtain ⟨⟨t55, t56, t57, t58, t59, t60, t61⟩, hg54, h⟩ := of_bind h
          dsimp only at h
          refine RegI.op (by kernel_rfl) (OpE.call 41 (by kernel_rfl) 15 #[.slice A47 (((([] : List Int) ++ t17) ++ p1).length) c48] (by kernel_rfl) ((decode_Next_15_ok K (fun _ => False) w46  A47 c48 ((([] : List Int) ++ t17) ++ p1) (fun _ hf => hf.elim) (h49.ownSl 4 rfl) hg54).mono ?_))
          rintro _ w51 ⟨rfl, hb52⟩
          refine ⟨_, rfl, ?_⟩
          have h53 := h49.call hb52
          refine RegI.pure 3 [2, 6, 42, 43] [(2, .pointer (some ⟨b2, 0, none⟩)), (6, .slice A18 t17.length c19), (42, .agg #[.int .i64 t55, .int .u8 t56, .int .u8 t57, .int .u16 t58, .int .i64 t59, .int .i64 t60]), (43, .bool t61)] (by kernel_rfl) ?_
          refine RegI.op (by kernel_rfl) (OpE.box 10 30 [.int .i64 0, .int .u8 0, .int .u8 0, .int .u16 0, .int .i64 0, .int .i64 0] h53 (by kernel_rfl) (by kernel_rfl) ?_)
          intro w62 b63 h64 hb65 hn66
          refine RegI.op (by kernel_rfl) (OpE.storeBox 5 30 b63 0 (.agg #[.int .i64 t55, .int .u8 t56, .int .u8 t57, .int .u16 t58, .int .i64 t59, .int .i64 t60]) [.int .i64 t55, .int .u8 t56, .int .u8 t57, .int .u16 t58, .int .i64 t59, .int .i64 t60] h64 (by kernel_rfl) (by kernel_rfl) rfl (by kernel_rfl) (by kernel_rfl) (by kernel_rfl) ?_)
          intro w67 h68 hk69
          refine RegI.pure 1 [2, 6, 10, 11] [(2, .pointer (some ⟨b2, 0, none⟩)), (6, .slice A18 t17.length c19), (10, .pointer (some ⟨b63, 0, none⟩)), (11, .bool t61)] (by kernel_rfl) ?_
          refine RegI.done (by kernel_rfl) ?_
          refine RunsI.go 1 [.c 51, .c 52] (by kernel_rfl) ?_
          refine RunsI.region (by kernel_rfl) ?_
          refine RegI.pure 1 [2, 6, 10, 11, 44] [(2, .pointer (some ⟨b2, 0, none⟩)), (6, .slice A18 t17.length c19), (10, .pointer (some ⟨b63, 0, none⟩)), (11, .bool t61), (44, .pointer (some ⟨b2, 0, none⟩))] (by kernel_rfl) ?_
          refine RegI.op (by kernel_rfl) (OpE.loadBox 45 1 3 b2 0 (.int .i64 p0_0) h68 (by kernel_rfl) (by kernel_rfl) rfl (by kernel_rfl) ?_)
          refine RegI.pure 1 [2, 6, 10, 11, 45, 46] [(2, .pointer (some ⟨b2, 0, none⟩)), (6, .slice A18 t17.length c19), (10, .pointer (some ⟨b63, 0, none⟩)), (11, .bool t61), (45, .int .i64 p0_0), (46, .pointer (some ⟨b2, 1, none⟩))] (by kernel_rfl) ?_
          refine RegI.op (by kernel_rfl) (OpE.loadBox 47 1 5 b2 1 (.int .u8 p0_1) h68 (by kernel_rfl) (by kernel_rfl) rfl (by kernel_rfl) ?_)
          obtain ⟨t74, hg73, h⟩ := of_bind h
          refine RegI.op (by kernel_rfl) (OpE.call 48 (by kernel_rfl) 13 #[.int .i64 p0_0, .int .u8 p0_1] (by kernel_rfl) ((decode_Near_13_ok K _ w67  p0_0 p0_1 h68.old' hg73).mono ?_))
          rintro _ w70 ⟨rfl, hb71⟩
          refine ⟨_, rfl, ?_⟩
          have h72 := h68.call hb71
          refine RegI.pure 1 [2, 6, 10, 11, 12] [(2, .pointer (some ⟨b2, 0, none⟩)), (6, .slice A18 t17.length c19), (10, .pointer (some ⟨b63, 0, none⟩)), (11, .bool t61), (12, .bool t74)] (by kernel_rfl) ?_
          refine RegI.done (by kernel_rfl) ?_
          refine RunsI.go 1 [.c 53, .c 54] (by kernel_rfl) ?_
          refine RunsI.region (by kernel_rfl) ?_
          refine RegI.pure 1 [2, 6, 10, 11, 12, 49] [(2, .pointer (some ⟨b2, 0, none⟩)), (6, .slice A18 t17.length c19), (10, .pointer (some ⟨b63, 0, none⟩)), (11, .bool t61), (12, .bool t74), (49, .pointer (some ⟨b2, 0, none⟩))] (by kernel_rfl) ?_
          refine RegI.op (by kernel_rfl) (OpE.loadBox 50 1 3 b2 0 (.int .i64 p0_0) h72 (by kernel_rfl) (by kernel_rfl) rfl (by kernel_rfl) ?_)
          refine RegI.pure 1 [2, 6, 10, 11, 12, 50, 51] [(2, .pointer (some ⟨b2, 0, none⟩)), (6, .slice A18 t17.length c19), (10, .pointer (some ⟨b63, 0, none⟩)), (11, .bool t61), (12, .bool t74), (50, .int .i64 p0_0), (51, .pointer (some ⟨b2, 1, none⟩))] (by kernel_rfl) ?_
          refine RegI.op (by kernel_rfl) (OpE.loadBox 52 1 5 b2 1 (.int .u8 p0_1) h72 (by kernel_rfl) (by kernel_rfl) rfl (by kernel_rfl) ?_)
          obtain ⟨t79, hg78, h⟩ := of_bind h
          refine RegI.op (by kernel_rfl) (OpE.call 53 (by kernel_rfl) 11 #[.int .i64 p0_0, .int .u8 p0_1] (by kernel_rfl) ((decode_Size_11_ok K _ w70  p0_0 p0_1 h72.old' hg78).mono ?_))
          rintro _ w75 ⟨rfl, hb76⟩
          refine ⟨_, rfl, ?_⟩
          have h77 := h72.call hb76
          refine RegI.pure 1 [2, 6, 10, 11, 12, 13] [(2, .pointer (some ⟨b2, 0, none⟩)), (6, .slice A18 t17.length c19), (10, .pointer (some ⟨b63, 0, none⟩)), (11, .bool t61), (12, .bool t74), (13, .int .i64 t79)] (by kernel_rfl) ?_
          refine RegI.done (by kernel_rfl) ?_
          refine RunsI.go 1 [.c 55, .c 56] (by kernel_rfl) ?_
          refine RunsI.region (by kernel_rfl) ?_
          refine RegI.pure 2 [2, 6, 10, 12, 13, 55] [(2, .pointer (some ⟨b2, 0, none⟩)), (6, .slice A18 t17.length c19), (10, .pointer (some ⟨b63, 0, none⟩)), (12, .bool t74), (13, .int .i64 t79), (55, .bool t61)] (by kernel_rfl) ?_
          rcases of_cond h with ⟨hc80, h⟩ | ⟨hc80, h⟩
          · skip
            refine RegI.fix 55 true hc80 (by kernel_rfl) (by kernel_rfl) ?_
            refine RegI.pure 1 [2, 6, 10, 12, 13, 55, 56] [(2, .pointer (some ⟨b2, 0, none⟩)), (6, .slice A18 t17.length c19), (10, .pointer (some ⟨b63, 0, none⟩)), (12, .bool t74), (13, .int .i64 t79), (55, .bool true), (56, .pointer (some ⟨b63, 0, none⟩))] (by kernel_rfl) ?_
            refine RegI.op (by kernel_rfl) (OpE.loadBox 57 5 3 b63 0 (.int .i64 t55) h77 (by kernel_rfl) (by kernel_rfl) rfl (by kernel_rfl) ?_)
            refine RegI.pure 1 [2, 6, 10, 12, 13, 55, 57, 58] [(2, .pointer (some ⟨b2, 0, none⟩)), (6, .slice A18 t17.length c19), (10, .pointer (some ⟨b63, 0, none⟩)), (12, .bool t74), (13, .int .i64 t79), (55, .bool true), (57, .int .i64 t55), (58, .pointer (some ⟨b2, 0, none⟩))] (by kernel_rfl) ?_
            refine RegI.op (by kernel_rfl) (OpE.loadBox 59 1 3 b2 0 (.int .i64 p0_0) h77 (by kernel_rfl) (by kernel_rfl) rfl (by kernel_rfl) ?_)
            refine RegI.pure 3 [2, 6, 10, 12, 13, 62] [(2, .pointer (some ⟨b2, 0, none⟩)), (6, .slice A18 t17.length c19), (10, .pointer (some ⟨b63, 0, none⟩)), (12, .bool t74), (13, .int .i64 t79), (62, .bool (t55 == p0_0))] (by kernel_rfl) ?_
            rcases of_cond h with ⟨hc81, h⟩ | ⟨hc81, h⟩
            · skip
              refine RegI.fix 62 true hc81 (by kernel_rfl) (by kernel_rfl) ?_
              refine RegI.pure 1 [2, 6, 10, 12, 13, 62, 63] [(2, .pointer (some ⟨b2, 0, none⟩)), (6, .slice A18 t17.length c19), (10, .pointer (some ⟨b63, 0, none⟩)), (12, .bool t74), (13, .int .i64 t79), (62, .bool true), (63, .pointer (some ⟨b63, 1, none⟩))] (by kernel_rfl) ?_
              refine RegI.op (by kernel_rfl) (OpE.loadBox 64 5 5 b63 1 (.int .u8 t56) h77 (by kernel_rfl) (by kernel_rfl) rfl (by kernel_rfl) ?_)
              refine RegI.pure 1 [2, 6, 10, 12, 13, 62, 64, 65] [(2, .pointer (some ⟨b2, 0, none⟩)), (6, .slice A18 t17.length c19), (10, .pointer (some ⟨b63, 0, none⟩)), (12, .bool t74), (13, .int .i64 t79), (62, .bool true), (64, .int .u8 t56), (65, .pointer (some ⟨b2, 1, none⟩))] (by kernel_rfl) ?_
              refine RegI.op (by kernel_rfl) (OpE.loadBox 66 1 5 b2 1 (.int .u8 p0_1) h77 (by kernel_rfl) (by kernel_rfl) rfl (by kernel_rfl) ?_)
              refine RegI.pure 3 [2, 6, 10, 12, 13, 69] [(2, .pointer (some ⟨b2, 0, none⟩)), (6, .slice A18 t17.length c19), (10, .pointer (some ⟨b63, 0, none⟩)), (12, .bool t74), (13, .int .i64 t79), (69, .bool (t56 == p0_1))] (by kernel_rfl) ?_
              rcases of_cond h with ⟨hc82, h⟩ | ⟨hc82, h⟩
              · skip
                refine RegI.fix 69 true hc82 (by kernel_rfl) (by kernel_rfl) ?_
                refine RegI.pure 1 [2, 6, 10, 12, 13, 69, 70] [(2, .pointer (some ⟨b2, 0, none⟩)), (6, .slice A18 t17.length c19), (10, .pointer (some ⟨b63, 0, none⟩)), (12, .bool t74), (13, .int .i64 t79), (69, .bool true), (70, .pointer (some ⟨b63, 4, none⟩))] (by kernel_rfl) ?_
                refine RegI.op (by kernel_rfl) (OpE.loadBox 71 5 3 b63 4 (.int .i64 t59) h77 (by kernel_rfl) (by kernel_rfl) rfl (by kernel_rfl) ?_)
                refine RegI.pure 5 [2, 10, 12, 13, 76] [(2, .pointer (some ⟨b2, 0, none⟩)), (10, .pointer (some ⟨b63, 0, none⟩)), (12, .bool t74), (13, .int .i64 t79), (76, .bool (t59 == (t17.length : Int)))] (by kernel_rfl) ?_
                rcases of_cond h with ⟨hc83, h⟩ | ⟨hc83, h⟩
                · skip
                  refine RegI.fix 76 true hc83 (by kernel_rfl) (by kernel_rfl) ?_
                  refine RegI.pure 1 [2, 10, 12, 13, 76, 77] [(2, .pointer (some ⟨b2, 0, none⟩)), (10, .pointer (some ⟨b63, 0, none⟩)), (12, .bool t74), (13, .int .i64 t79), (76, .bool true), (77, .pointer (some ⟨b63, 5, none⟩))] (by kernel_rfl) ?_
                  refine RegI.op (by kernel_rfl) (OpE.loadBox 78 5 3 b63 5 (.int .i64 t60) h77 (by kernel_rfl) (by kernel_rfl) rfl (by kernel_rfl) ?_)
                  refine RegI.pure 3 [2, 10, 12, 13, 81] [(2, .pointer (some ⟨b2, 0, none⟩)), (10, .pointer (some ⟨b63, 0, none⟩)), (12, .bool t74), (13, .int .i64 t79), (81, .bool (t60 == 0))] (by kernel_rfl) ?_
                  rcases of_cond h with ⟨hc84, h⟩ | ⟨hc84, h⟩
                  · skip
                    refine RegI.fix 81 true hc84 (by kernel_rfl) (by kernel_rfl) ?_
                    refine RegI.pure 3 [2, 10, 12, 13, 81, 84] [(2, .pointer (some ⟨b2, 0, none⟩)), (10, .pointer (some ⟨b63, 0, none⟩)), (12, .bool t74), (13, .int .i64 t79), (81, .bool true), (84, .bool (!t74))] (by kernel_rfl) ?_
                    rcases of_cond h with ⟨hc85, h⟩ | ⟨hc85, h⟩
                    · skip
                      refine RegI.fix 84 true hc85 (by kernel_rfl) (by kernel_rfl) ?_
                      refine RegI.pure 10 [2, 10, 13, 92, 94] [(2, .pointer (some ⟨b2, 0, none⟩)), (10, .pointer (some ⟨b63, 0, none⟩)), (13, .int .i64 t79), (92, .bool true), (94, .bool t74)] (by kernel_rfl) ?_
                      rcases of_cond h with ⟨hc86, h⟩ | ⟨hc86, h⟩
                      · skip
                        refine RegI.fix 94 true hc86 (by kernel_rfl) (by kernel_rfl) ?_
                        refine RegI.pure 9 [2, 10, 13, 100, 103] [(2, .pointer (some ⟨b2, 0, none⟩)), (10, .pointer (some ⟨b63, 0, none⟩)), (13, .int .i64 t79), (100, .bool true), (103, .bool (t79 != 2))] (by kernel_rfl) ?_
                        rcases of_cond h with ⟨hc87, h⟩ | ⟨hc87, h⟩
                        · skip
                          refine RegI.fix 103 true hc87 (by kernel_rfl) (by kernel_rfl) ?_
                          refine RegI.pure 11 [2, 10, 13, 111, 114] [(2, .pointer (some ⟨b2, 0, none⟩)), (10, .pointer (some ⟨b63, 0, none⟩)), (13, .int .i64 t79), (111, .bool true), (114, .bool (t79 != 1))] (by kernel_rfl) ?_
                          rcases of_cond h with ⟨hc88, h⟩ | ⟨hc88, h⟩
                          · skip
                            refine RegI.fix 114 true hc88 (by kernel_rfl) (by kernel_rfl) ?_
                            refine RegI.pure 12 [10, 123, 126] [(10, .pointer (some ⟨b63, 0, none⟩)), (123, .bool true), (126, .bool (t79 != 0))] (by kernel_rfl) ?_
                            rcases of_cond h with ⟨hc89, h⟩ | ⟨hc89, h⟩
                            · skip
                              refine RegI.fix 126 true hc89 (by kernel_rfl) (by kernel_rfl) ?_
                              refine RegI.pure 6 [4] [(4, .bool true)] (by kernel_rfl) ?_
                              refine RegI.done (by kernel_rfl) ?_
                              refine RunsI.ret (.bool true) (by kernel_rfl) (by kernel_rfl) ?_
                              obtain rfl := Option.some.inj h
                              exact ⟨rfl, h77.below⟩
                            · skip
                              refine RegI.fix 126 false hc89 (by kernel_rfl) (by kernel_rfl) ?_
                              refine RegI.pure 1 [123, 126, 127] [(123, .bool true), (126, .bool false), (127, .pointer (some ⟨b63, 3, none⟩))] (by kernel_rfl) ?_
                              refine RegI.op (by kernel_rfl) (OpE.loadBox 128 5 28 b63 3 (.int .u16 t58) h77 (by kernel_rfl) (by kernel_rfl) rfl (by kernel_rfl) ?_)
                              refine RegI.pure 4 [4] [(4, .bool (t58 == 0))] (by kernel_rfl) ?_
                              refine RegI.done (by kernel_rfl) ?_
                              refine RunsI.ret (.bool (t58 == 0)) (by kernel_rfl) (by kernel_rfl) ?_
                              obtain rfl := Option.some.inj h
                              exact ⟨rfl, h77.below⟩
                          · skip
                            refine RegI.fix 114 false hc88 (by kernel_rfl) (by kernel_rfl) ?_
                            refine RegI.pure 1 [2, 10, 13, 111, 114, 115] [(2, .pointer (some ⟨b2, 0, none⟩)), (10, .pointer (some ⟨b63, 0, none⟩)), (13, .int .i64 t79), (111, .bool true), (114, .bool false), (115, .pointer (some ⟨b63, 3, none⟩))] (by kernel_rfl) ?_
                            refine RegI.op (by kernel_rfl) (OpE.loadBox 116 5 28 b63 3 (.int .u16 t58) h77 (by kernel_rfl) (by kernel_rfl) rfl (by kernel_rfl) ?_)
                            refine RegI.pure 1 [10, 13, 111, 114, 116, 117] [(10, .pointer (some ⟨b63, 0, none⟩)), (13, .int .i64 t79), (111, .bool true), (114, .bool false), (116, .int .u16 t58), (117, .pointer (some ⟨b2, 3, none⟩))] (by kernel_rfl) ?_
                            refine RegI.op (by kernel_rfl) (OpE.loadBox 118 1 28 b2 3 (.int .u16 p0_3) h77 (by kernel_rfl) (by kernel_rfl) rfl (by kernel_rfl) ?_)
                            refine RegI.pure 5 [10, 13, 123] [(10, .pointer (some ⟨b63, 0, none⟩)), (13, .int .i64 t79), (123, .bool (t58 == (Int.tmod p0_3 256)))] (by kernel_rfl) ?_
                            rcases of_cond h with ⟨hc90, h⟩ | ⟨hc90, h⟩
                            · skip
                              refine RegI.fix 123 true hc90 (by kernel_rfl) (by kernel_rfl) ?_
                              refine RegI.pure 3 [10, 123, 126] [(10, .pointer (some ⟨b63, 0, none⟩)), (123, .bool true), (126, .bool (t79 != 0))] (by kernel_rfl) ?_
                              rcases of_cond h with ⟨hc91, h⟩ | ⟨hc91, h⟩
                              · skip
                                refine RegI.fix 126 true hc91 (by kernel_rfl) (by kernel_rfl) ?_
                                refine RegI.pure 6 [4] [(4, .bool true)] (by kernel_rfl) ?_
                                refine RegI.done (by kernel_rfl) ?_
                                refine RunsI.ret (.bool true) (by kernel_rfl) (by kernel_rfl) ?_
                                obtain rfl := Option.some.inj h
                                exact ⟨rfl, h77.below⟩
                              · skip
                                refine RegI.fix 126 false hc91 (by kernel_rfl) (by kernel_rfl) ?_
                                refine RegI.pure 1 [123, 126, 127] [(123, .bool true), (126, .bool false), (127, .pointer (some ⟨b63, 3, none⟩))] (by kernel_rfl) ?_
                                refine RegI.op (by kernel_rfl) (OpE.loadBox 128 5 28 b63 3 (.int .u16 t58) h77 (by kernel_rfl) (by kernel_rfl) rfl (by kernel_rfl) ?_)
                                refine RegI.pure 4 [4] [(4, .bool (t58 == 0))] (by kernel_rfl) ?_
                                refine RegI.done (by kernel_rfl) ?_
                                refine RunsI.ret (.bool (t58 == 0)) (by kernel_rfl) (by kernel_rfl) ?_
                                obtain rfl := Option.some.inj h
                                exact ⟨rfl, h77.below⟩
                            · skip
                              refine RegI.fix 123 false hc90 (by kernel_rfl) (by kernel_rfl) ?_
                              refine RegI.pure 9 [4] [(4, .bool false)] (by kernel_rfl) ?_
                              refine RegI.done (by kernel_rfl) ?_
                              refine RunsI.ret (.bool false) (by kernel_rfl) (by kernel_rfl) ?_
                              obtain rfl := Option.some.inj h
                              exact ⟨rfl, h77.below⟩
                        · skip
                          refine RegI.fix 103 false hc87 (by kernel_rfl) (by kernel_rfl) ?_
                          refine RegI.pure 1 [2, 10, 13, 100, 103, 104] [(2, .pointer (some ⟨b2, 0, none⟩)), (10, .pointer (some ⟨b63, 0, none⟩)), (13, .int .i64 t79), (100, .bool true), (103, .bool false), (104, .pointer (some ⟨b63, 3, none⟩))] (by kernel_rfl) ?_
                          refine RegI.op (by kernel_rfl) (OpE.loadBox 105 5 28 b63 3 (.int .u16 t58) h77 (by kernel_rfl) (by kernel_rfl) rfl (by kernel_rfl) ?_)
                          refine RegI.pure 1 [2, 10, 13, 100, 103, 105, 106] [(2, .pointer (some ⟨b2, 0, none⟩)), (10, .pointer (some ⟨b63, 0, none⟩)), (13, .int .i64 t79), (100, .bool true), (103, .bool false), (105, .int .u16 t58), (106, .pointer (some ⟨b2, 3, none⟩))] (by kernel_rfl) ?_
                          refine RegI.op (by kernel_rfl) (OpE.loadBox 107 1 28 b2 3 (.int .u16 p0_3) h77 (by kernel_rfl) (by kernel_rfl) rfl (by kernel_rfl) ?_)
                          refine RegI.pure 4 [2, 10, 13, 111] [(2, .pointer (some ⟨b2, 0, none⟩)), (10, .pointer (some ⟨b63, 0, none⟩)), (13, .int .i64 t79), (111, .bool (t58 == p0_3))] (by kernel_rfl) ?_
                          rcases of_cond h with ⟨hc92, h⟩ | ⟨hc92, h⟩
                          · skip
                            refine RegI.fix 111 true hc92 (by kernel_rfl) (by kernel_rfl) ?_
                            refine RegI.pure 3 [2, 10, 13, 111, 114] [(2, .pointer (some ⟨b2, 0, none⟩)), (10, .pointer (some ⟨b63, 0, none⟩)), (13, .int .i64 t79), (111, .bool true), (114, .bool (t79 != 1))] (by kernel_rfl) ?_
                            rcases of_cond h with ⟨hc93, h⟩ | ⟨hc93, h⟩
                            · skip
                              refine RegI.fix 114 true hc93 (by kernel_rfl) (by kernel_rfl) ?_
                              refine RegI.pure 12 [10, 123, 126] [(10, .pointer (some ⟨b63, 0, none⟩)), (123, .bool true), (126, .bool (t79 != 0))] (by kernel_rfl) ?_
                              rcases of_cond h with ⟨hc94, h⟩ | ⟨hc94, h⟩
                              · skip
                                refine RegI.fix 126 true hc94 (by kernel_rfl) (by kernel_rfl) ?_
                                refine RegI.pure 6 [4] [(4, .bool true)] (by kernel_rfl) ?_
                                refine RegI.done (by kernel_rfl) ?_
                                refine RunsI.ret (.bool true) (by kernel_rfl) (by kernel_rfl) ?_
                                obtain rfl := Option.some.inj h
                                exact ⟨rfl, h77.below⟩
                              · skip
                                refine RegI.fix 126 false hc94 (by kernel_rfl) (by kernel_rfl) ?_
                                refine RegI.pure 1 [123, 126, 127] [(123, .bool true), (126, .bool false), (127, .pointer (some ⟨b63, 3, none⟩))] (by kernel_rfl) ?_
                                refine RegI.op (by kernel_rfl) (OpE.loadBox 128 5 28 b63 3 (.int .u16 t58) h77 (by kernel_rfl) (by kernel_rfl) rfl (by kernel_rfl) ?_)
                                refine RegI.pure 4 [4] [(4, .bool (t58 == 0))] (by kernel_rfl) ?_
                                refine RegI.done (by kernel_rfl) ?_
                                refine RunsI.ret (.bool (t58 == 0)) (by kernel_rfl) (by kernel_rfl) ?_
                                obtain rfl := Option.some.inj h
                                exact ⟨rfl, h77.below⟩
                            · skip
                              refine RegI.fix 114 false hc93 (by kernel_rfl) (by kernel_rfl) ?_
                              refine RegI.pure 1 [2, 10, 13, 111, 114, 115] [(2, .pointer (some ⟨b2, 0, none⟩)), (10, .pointer (some ⟨b63, 0, none⟩)), (13, .int .i64 t79), (111, .bool true), (114, .bool false), (115, .pointer (some ⟨b63, 3, none⟩))] (by kernel_rfl) ?_
                              refine RegI.op (by kernel_rfl) (OpE.loadBox 116 5 28 b63 3 (.int .u16 t58) h77 (by kernel_rfl) (by kernel_rfl) rfl (by kernel_rfl) ?_)
                              refine RegI.pure 1 [10, 13, 111, 114, 116, 117] [(10, .pointer (some ⟨b63, 0, none⟩)), (13, .int .i64 t79), (111, .bool true), (114, .bool false), (116, .int .u16 t58), (117, .pointer (some ⟨b2, 3, none⟩))] (by kernel_rfl) ?_
                              refine RegI.op (by kernel_rfl) (OpE.loadBox 118 1 28 b2 3 (.int .u16 p0_3) h77 (by kernel_rfl) (by kernel_rfl) rfl (by kernel_rfl) ?_)
                              refine RegI.pure 5 [10, 13, 123] [(10, .pointer (some ⟨b63, 0, none⟩)), (13, .int .i64 t79), (123, .bool (t58 == (Int.tmod p0_3 256)))] (by kernel_rfl) ?_
                              rcases of_cond h with ⟨hc95, h⟩ | ⟨hc95, h⟩
                              · skip
                                refine RegI.fix 123 true hc95 (by kernel_rfl) (by kernel_rfl) ?_
                                refine RegI.pure 3 [10, 123, 126] [(10, .pointer (some ⟨b63, 0, none⟩)), (123, .bool true), (126, .bool (t79 != 0))] (by kernel_rfl) ?_
                                rcases of_cond h with ⟨hc96, h⟩ | ⟨hc96, h⟩
                                · skip
                                  refine RegI.fix 126 true hc96 (by kernel_rfl) (by kernel_rfl) ?_
                                  refine RegI.pure 6 [4] [(4, .bool true)] (by kernel_rfl) ?_
                                  refine RegI.done (by kernel_rfl) ?_
                                  refine RunsI.ret (.bool true) (by kernel_rfl) (by kernel_rfl) ?_
                                  obtain rfl := Option.some.inj h
                                  exact ⟨rfl, h77.below⟩
                                · skip
                                  refine RegI.fix 126 false hc96 (by kernel_rfl) (by kernel_rfl) ?_
                                  refine RegI.pure 1 [123, 126, 127] [(123, .bool true), (126, .bool false), (127, .pointer (some ⟨b63, 3, none⟩))] (by kernel_rfl) ?_
                                  refine RegI.op (by kernel_rfl) (OpE.loadBox 128 5 28 b63 3 (.int .u16 t58) h77 (by kernel_rfl) (by kernel_rfl) rfl (by kernel_rfl) ?_)
                                  refine RegI.pure 4 [4] [(4, .bool (t58 == 0))] (by kernel_rfl) ?_
                                  refine RegI.done (by kernel_rfl) ?_
                                  refine RunsI.ret (.bool (t58 == 0)) (by kernel_rfl) (by kernel_rfl) ?_
                                  obtain rfl := Option.some.inj h
                                  exact ⟨rfl, h77.below⟩
                              · skip
                                refine RegI.fix 123 false hc95 (by kernel_rfl) (by kernel_rfl) ?_
                                refine RegI.pure 9 [4] [(4, .bool false)] (by kernel_rfl) ?_
                                refine RegI.done (by kernel_rfl) ?_
                                refine RunsI.ret (.bool false) (by kernel_rfl) (by kernel_rfl) ?_
                                obtain rfl := Option.some.inj h
                                exact ⟨rfl, h77.below⟩
                          · skip
                            refine RegI.fix 111 false hc92 (by kernel_rfl) (by kernel_rfl) ?_
                            refine RegI.pure 21 [4] [(4, .bool false)] (by kernel_rfl) ?_
                            refine RegI.done (by kernel_rfl) ?_
                            refine RunsI.ret (.bool false) (by kernel_rfl) (by kernel_rfl) ?_
                            obtain rfl := Option.some.inj h
                            exact ⟨rfl, h77.below⟩
                      · skip
                        refine RegI.fix 94 false hc86 (by kernel_rfl) (by kernel_rfl) ?_
                        refine RegI.pure 1 [2, 10, 13, 92, 94, 95] [(2, .pointer (some ⟨b2, 0, none⟩)), (10, .pointer (some ⟨b63, 0, none⟩)), (13, .int .i64 t79), (92, .bool true), (94, .bool false), (95, .pointer (some ⟨b63, 2, none⟩))] (by kernel_rfl) ?_
                        refine RegI.op (by kernel_rfl) (OpE.loadBox 96 5 5 b63 2 (.int .u8 t57) h77 (by kernel_rfl) (by kernel_rfl) rfl (by kernel_rfl) ?_)
                        refine RegI.pure 4 [2, 10, 13, 100] [(2, .pointer (some ⟨b2, 0, none⟩)), (10, .pointer (some ⟨b63, 0, none⟩)), (13, .int .i64 t79), (100, .bool (t57 == 0))] (by kernel_rfl) ?_
                        rcases of_cond h with ⟨hc97, h⟩ | ⟨hc97, h⟩
                        · skip
                          refine RegI.fix 100 true hc97 (by kernel_rfl) (by kernel_rfl) ?_
                          refine RegI.pure 3 [2, 10, 13, 100, 103] [(2, .pointer (some ⟨b2, 0, none⟩)), (10, .pointer (some ⟨b63, 0, none⟩)), (13, .int .i64 t79), (100, .bool true), (103, .bool (t79 != 2))] (by kernel_rfl) ?_
                          rcases of_cond h with ⟨hc98, h⟩ | ⟨hc98, h⟩
                          · skip
                            refine RegI.fix 103 true hc98 (by kernel_rfl) (by kernel_rfl) ?_
                            refine RegI.pure 11 [2, 10, 13, 111, 114] [(2, .pointer (some ⟨b2, 0, none⟩)), (10, .pointer (some ⟨b63, 0, none⟩)), (13, .int .i64 t79), (111, .bool true), (114, .bool (t79 != 1))] (by kernel_rfl) ?_
                            rcases of_cond h with ⟨hc99, h⟩ | ⟨hc99, h⟩
                            · skip
                              refine RegI.fix 114 true hc99 (by kernel_rfl) (by kernel_rfl) ?_
                              refine RegI.pure 12 [10, 123, 126] [(10, .pointer (some ⟨b63, 0, none⟩)), (123, .bool true), (126, .bool (t79 != 0))] (by kernel_rfl) ?_
                              rcases of_cond h with ⟨hc100, h⟩ | ⟨hc100, h⟩
                              · skip
                                refine RegI.fix 126 true hc100 (by kernel_rfl) (by kernel_rfl) ?_
                                refine RegI.pure 6 [4] [(4, .bool true)] (by kernel_rfl) ?_
                                refine RegI.done (by kernel_rfl) ?_
                                refine RunsI.ret (.bool true) (by kernel_rfl) (by kernel_rfl) ?_
                                obtain rfl := Option.some.inj h
                                exact ⟨rfl, h77.below⟩
                              · skip
                                refine RegI.fix 126 false hc100 (by kernel_rfl) (by kernel_rfl) ?_
                                refine RegI.pure 1 [123, 126, 127] [(123, .bool true), (126, .bool false), (127, .pointer (some ⟨b63, 3, none⟩))] (by kernel_rfl) ?_
                                refine RegI.op (by kernel_rfl) (OpE.loadBox 128 5 28 b63 3 (.int .u16 t58) h77 (by kernel_rfl) (by kernel_rfl) rfl (by kernel_rfl) ?_)
                                refine RegI.pure 4 [4] [(4, .bool (t58 == 0))] (by kernel_rfl) ?_
                                refine RegI.done (by kernel_rfl) ?_
                                refine RunsI.ret (.bool (t58 == 0)) (by kernel_rfl) (by kernel_rfl) ?_
                                obtain rfl := Option.some.inj h
                                exact ⟨rfl, h77.below⟩
                            · skip
                              refine RegI.fix 114 false hc99 (by kernel_rfl) (by kernel_rfl) ?_
                              refine RegI.pure 1 [2, 10, 13, 111, 114, 115] [(2, .pointer (some ⟨b2, 0, none⟩)), (10, .pointer (some ⟨b63, 0, none⟩)), (13, .int .i64 t79), (111, .bool true), (114, .bool false), (115, .pointer (some ⟨b63, 3, none⟩))] (by kernel_rfl) ?_
                              refine RegI.op (by kernel_rfl) (OpE.loadBox 116 5 28 b63 3 (.int .u16 t58) h77 (by kernel_rfl) (by kernel_rfl) rfl (by kernel_rfl) ?_)
                              refine RegI.pure 1 [10, 13, 111, 114, 116, 117] [(10, .pointer (some ⟨b63, 0, none⟩)), (13, .int .i64 t79), (111, .bool true), (114, .bool false), (116, .int .u16 t58), (117, .pointer (some ⟨b2, 3, none⟩))] (by kernel_rfl) ?_
                              refine RegI.op (by kernel_rfl) (OpE.loadBox 118 1 28 b2 3 (.int .u16 p0_3) h77 (by kernel_rfl) (by kernel_rfl) rfl (by kernel_rfl) ?_)
                              refine RegI.pure 5 [10, 13, 123] [(10, .pointer (some ⟨b63, 0, none⟩)), (13, .int .i64 t79), (123, .bool (t58 == (Int.tmod p0_3 256)))] (by kernel_rfl) ?_
                              rcases of_cond h with ⟨hc101, h⟩ | ⟨hc101, h⟩
                              · skip
                                refine RegI.fix 123 true hc101 (by kernel_rfl) (by kernel_rfl) ?_
                                refine RegI.pure 3 [10, 123, 126] [(10, .pointer (some ⟨b63, 0, none⟩)), (123, .bool true), (126, .bool (t79 != 0))] (by kernel_rfl) ?_
                                rcases of_cond h with ⟨hc102, h⟩ | ⟨hc102, h⟩
                                · skip
                                  refine RegI.fix 126 true hc102 (by kernel_rfl) (by kernel_rfl) ?_
                                  refine RegI.pure 6 [4] [(4, .bool true)] (by kernel_rfl) ?_
                                  refine RegI.done (by kernel_rfl) ?_
                                  refine RunsI.ret (.bool true) (by kernel_rfl) (by kernel_rfl) ?_
                                  obtain rfl := Option.some.inj h
                                  exact ⟨rfl, h77.below⟩
                                · skip
                                  refine RegI.fix 126 false hc102 (by kernel_rfl) (by kernel_rfl) ?_
                                  refine RegI.pure 1 [123, 126, 127] [(123, .bool true), (126, .bool false), (127, .pointer (some ⟨b63, 3, none⟩))] (by kernel_rfl) ?_
                                  refine RegI.op (by kernel_rfl) (OpE.loadBox 128 5 28 b63 3 (.int .u16 t58) h77 (by kernel_rfl) (by kernel_rfl) rfl (by kernel_rfl) ?_)
                                  refine RegI.pure 4 [4] [(4, .bool (t58 == 0))] (by kernel_rfl) ?_
                                  refine RegI.done (by kernel_rfl) ?_
                                  refine RunsI.ret (.bool (t58 == 0)) (by kernel_rfl) (by kernel_rfl) ?_
                                  obtain rfl := Option.some.inj h
                                  exact ⟨rfl, h77.below⟩
                              · skip
                                refine RegI.fix 123 false hc101 (by kernel_rfl) (by kernel_rfl) ?_
                                refine RegI.pure 9 [4] [(4, .bool false)] (by kernel_rfl) ?_
                                refine RegI.done (by kernel_rfl) ?_
                                refine RunsI.ret (.bool false) (by kernel_rfl) (by kernel_rfl) ?_
                                obtain rfl := Option.some.inj h
                                exact ⟨rfl, h77.below⟩
                          · skip
                            refine RegI.fix 103 false hc98 (by kernel_rfl) (by kernel_rfl) ?_
                            refine RegI.pure 1 [2, 10, 13, 100, 103, 104] [(2, .pointer (some ⟨b2, 0, none⟩)), (10, .pointer (some ⟨b63, 0, none⟩)), (13, .int .i64 t79), (100, .bool true), (103, .bool false), (104, .pointer (some ⟨b63, 3, none⟩))] (by kernel_rfl) ?_
                            refine RegI.op (by kernel_rfl) (OpE.loadBox 105 5 28 b63 3 (.int .u16 t58) h77 (by kernel_rfl) (by kernel_rfl) rfl (by kernel_rfl) ?_)
                            refine RegI.pure 1 [2, 10, 13, 100, 103, 105, 106] [(2, .pointer (some ⟨b2, 0, none⟩)), (10, .pointer (some ⟨b63, 0, none⟩)), (13, .int .i64 t79), (100, .bool true), (103, .bool false), (105, .int .u16 t58), (106, .pointer (some ⟨b2, 3, none⟩))] (by kernel_rfl) ?_
                            refine RegI.op (by kernel_rfl) (OpE.loadBox 107 1 28 b2 3 (.int .u16 p0_3) h77 (by kernel_rfl) (by kernel_rfl) rfl (by kernel_rfl) ?_)
                            refine RegI.pure 4 [2, 10, 13, 111] [(2, .pointer (some ⟨b2, 0, none⟩)), (10, .pointer (some ⟨b63, 0, none⟩)), (13, .int .i64 t79), (111, .bool (t58 == p0_3))] (by kernel_rfl) ?_
                            rcases of_cond h with ⟨hc103, h⟩ | ⟨hc103, h⟩
                            · skip
                              refine RegI.fix 111 true hc103 (by kernel_rfl) (by kernel_rfl) ?_
                              refine RegI.pure 3 [2, 10, 13, 111, 114] [(2, .pointer (some ⟨b2, 0, none⟩)), (10, .pointer (some ⟨b63, 0, none⟩)), (13, .int .i64 t79), (111, .bool true), (114, .bool (t79 != 1))] (by kernel_rfl) ?_
                              rcases of_cond h with ⟨hc104, h⟩ | ⟨hc104, h⟩
                              · skip
                                refine RegI.fix 114 true hc104 (by kernel_rfl) (by kernel_rfl) ?_
                                refine RegI.pure 12 [10, 123, 126] [(10, .pointer (some ⟨b63, 0, none⟩)), (123, .bool true), (126, .bool (t79 != 0))] (by kernel_rfl) ?_
                                rcases of_cond h with ⟨hc105, h⟩ | ⟨hc105, h⟩
                                · skip
                                  refine RegI.fix 126 true hc105 (by kernel_rfl) (by kernel_rfl) ?_
                                  refine RegI.pure 6 [4] [(4, .bool true)] (by kernel_rfl) ?_
                                  refine RegI.done (by kernel_rfl) ?_
                                  refine RunsI.ret (.bool true) (by kernel_rfl) (by kernel_rfl) ?_
                                  obtain rfl := Option.some.inj h
                                  exact ⟨rfl, h77.below⟩
                                · skip
                                  refine RegI.fix 126 false hc105 (by kernel_rfl) (by kernel_rfl) ?_
                                  refine RegI.pure 1 [123, 126, 127] [(123, .bool true), (126, .bool false), (127, .pointer (some ⟨b63, 3, none⟩))] (by kernel_rfl) ?_
                                  refine RegI.op (by kernel_rfl) (OpE.loadBox 128 5 28 b63 3 (.int .u16 t58) h77 (by kernel_rfl) (by kernel_rfl) rfl (by kernel_rfl) ?_)
                                  refine RegI.pure 4 [4] [(4, .bool (t58 == 0))] (by kernel_rfl) ?_
                                  refine RegI.done (by kernel_rfl) ?_
                                  refine RunsI.ret (.bool (t58 == 0)) (by kernel_rfl) (by kernel_rfl) ?_
                                  obtain rfl := Option.some.inj h
                                  exact ⟨rfl, h77.below⟩
                              · skip
                                refine RegI.fix 114 false hc104 (by kernel_rfl) (by kernel_rfl) ?_
                                refine RegI.pure 1 [2, 10, 13, 111, 114, 115] [(2, .pointer (some ⟨b2, 0, none⟩)), (10, .pointer (some ⟨b63, 0, none⟩)), (13, .int .i64 t79), (111, .bool true), (114, .bool false), (115, .pointer (some ⟨b63, 3, none⟩))] (by kernel_rfl) ?_
                                refine RegI.op (by kernel_rfl) (OpE.loadBox 116 5 28 b63 3 (.int .u16 t58) h77 (by kernel_rfl) (by kernel_rfl) rfl (by kernel_rfl) ?_)
                                refine RegI.pure 1 [10, 13, 111, 114, 116, 117] [(10, .pointer (some ⟨b63, 0, none⟩)), (13, .int .i64 t79), (111, .bool true), (114, .bool false), (116, .int .u16 t58), (117, .pointer (some ⟨b2, 3, none⟩))] (by kernel_rfl) ?_
                                refine RegI.op (by kernel_rfl) (OpE.loadBox 118 1 28 b2 3 (.int .u16 p0_3) h77 (by kernel_rfl) (by kernel_rfl) rfl (by kernel_rfl) ?_)
                                refine RegI.pure 5 [10, 13, 123] [(10, .pointer (some ⟨b63, 0, none⟩)), (13, .int .i64 t79), (123, .bool (t58 == (Int.tmod p0_3 256)))] (by kernel_rfl) ?_
                                rcases of_cond h with ⟨hc106, h⟩ | ⟨hc106, h⟩
                                · skip
                                  refine RegI.fix 123 true hc106 (by kernel_rfl) (by kernel_rfl) ?_
                                  refine RegI.pure 3 [10, 123, 126] [(10, .pointer (some ⟨b63, 0, none⟩)), (123, .bool true), (126, .bool (t79 != 0))] (by kernel_rfl) ?_
                                  rcases of_cond h with ⟨hc107, h⟩ | ⟨hc107, h⟩
                                  · skip
                                    refine RegI.fix 126 true hc107 (by kernel_rfl) (by kernel_rfl) ?_
                                    refine RegI.pure 6 [4] [(4, .bool true)] (by kernel_rfl) ?_
                                    refine RegI.done (by kernel_rfl) ?_
                                    refine RunsI.ret (.bool true) (by kernel_rfl) (by kernel_rfl) ?_
                                    obtain rfl := Option.some.inj h
                                    exact ⟨rfl, h77.below⟩
                                  · skip
                                    refine RegI.fix 126 false hc107 (by kernel_rfl) (by kernel_rfl) ?_
                                    refine RegI.pure 1 [123, 126, 127] [(123, .bool true), (126, .bool false), (127, .pointer (some ⟨b63, 3, none⟩))] (by kernel_rfl) ?_
                                    refine RegI.op (by kernel_rfl) (OpE.loadBox 128 5 28 b63 3 (.int .u16 t58) h77 (by kernel_rfl) (by kernel_rfl) rfl (by kernel_rfl) ?_)
                                    refine RegI.pure 4 [4] [(4, .bool (t58 == 0))] (by kernel_rfl) ?_
                                    refine RegI.done (by kernel_rfl) ?_
                                    refine RunsI.ret (.bool (t58 == 0)) (by kernel_rfl) (by kernel_rfl) ?_
                                    obtain rfl := Option.some.inj h
                                    exact ⟨rfl, h77.below⟩
                                · skip
                                  refine RegI.fix 123 false hc106 (by kernel_rfl) (by kernel_rfl) ?_
                                  refine RegI.pure 9 [4] [(4, .bool false)] (by kernel_rfl) ?_
                                  refine RegI.done (by kernel_rfl) ?_
                                  refine RunsI.ret (.bool false) (by kernel_rfl) (by kernel_rfl) ?_
                                  obtain rfl := Option.some.inj h
                                  exact ⟨rfl, h77.below⟩
                            · skip
                              refine RegI.fix 111 false hc103 (by kernel_rfl) (by kernel_rfl) ?_
                              refine RegI.pure 21 [4] [(4, .bool false)] (by kernel_rfl) ?_
                              refine RegI.done (by kernel_rfl) ?_
                              refine RunsI.ret (.bool false) (by kernel_rfl) (by kernel_rfl) ?_
                              obtain rfl := Option.some.inj h
                              exact ⟨rfl, h77.below⟩
                        · skip
                          refine RegI.fix 100 false hc97 (by kernel_rfl) (by kernel_rfl) ?_
                          refine RegI.pure 32 [4] [(4, .bool false)] (by kernel_rfl) ?_
                          refine RegI.done (by kernel_rfl) ?_
                          refine RunsI.ret (.bool false) (by kernel_rfl) (by kernel_rfl) ?_
                          obtain rfl := Option.some.inj h
                          exact ⟨rfl, h77.below⟩
                    · skip
                      refine RegI.fix 84 false hc85 (by kernel_rfl) (by kernel_rfl) ?_
                      refine RegI.pure 1 [2, 10, 12, 13, 81, 84, 85] [(2, .pointer (some ⟨b2, 0, none⟩)), (10, .pointer (some ⟨b63, 0, none⟩)), (12, .bool t74), (13, .int .i64 t79), (81, .bool true), (84, .bool false), (85, .pointer (some ⟨b63, 2, none⟩))] (by kernel_rfl) ?_
                      refine RegI.op (by kernel_rfl) (OpE.loadBox 86 5 5 b63 2 (.int .u8 t57) h77 (by kernel_rfl) (by kernel_rfl) rfl (by kernel_rfl) ?_)
                      refine RegI.pure 1 [2, 10, 12, 13, 81, 84, 86, 87] [(2, .pointer (some ⟨b2, 0, none⟩)), (10, .pointer (some ⟨b63, 0, none⟩)), (12, .bool t74), (13, .int .i64 t79), (81, .bool true), (84, .bool false), (86, .int .u8 t57), (87, .pointer (some ⟨b2, 2, none⟩))] (by kernel_rfl) ?_
                      refine RegI.op (by kernel_rfl) (OpE.loadBox 88 1 5 b2 2 (.int .u8 p0_2) h77 (by kernel_rfl) (by kernel_rfl) rfl (by kernel_rfl) ?_)
                      refine RegI.pure 4 [2, 10, 12, 13, 92] [(2, .pointer (some ⟨b2, 0, none⟩)), (10, .pointer (some ⟨b63, 0, none⟩)), (12, .bool t74), (13, .int .i64 t79), (92, .bool (t57 == p0_2))] (by kernel_rfl) ?_
                      rcases of_cond h with ⟨hc108, h⟩ | ⟨hc108, h⟩
                      · skip
                        refine RegI.fix 92 true hc108 (by kernel_rfl) (by kernel_rfl) ?_
                        refine RegI.pure 2 [2, 10, 13, 92, 94] [(2, .pointer (some ⟨b2, 0, none⟩)), (10, .pointer (some ⟨b63, 0, none⟩)), (13, .int .i64 t79), (92, .bool true), (94, .bool t74)] (by kernel_rfl) ?_
                        rcases of_cond h with ⟨hc109, h⟩ | ⟨hc109, h⟩
                        · skip
                          refine RegI.fix 94 true hc109 (by kernel_rfl) (by kernel_rfl) ?_
                          refine RegI.pure 9 [2, 10, 13, 100, 103] [(2, .pointer (some ⟨b2, 0, none⟩)), (10, .pointer (some ⟨b63, 0, none⟩)), (13, .int .i64 t79), (100, .bool true), (103, .bool (t79 != 2))] (by kernel_rfl) ?_
                          rcases of_cond h with ⟨hc110, h⟩ | ⟨hc110, h⟩
                          · skip
                            refine RegI.fix 103 true hc110 (by kernel_rfl) (by kernel_rfl) ?_
                            refine RegI.pure 11 [2, 10, 13, 111, 114] [(2, .pointer (some ⟨b2, 0, none⟩)), (10, .pointer (some ⟨b63, 0, none⟩)), (13, .int .i64 t79), (111, .bool true), (114, .bool (t79 != 1))] (by kernel_rfl) ?_
                            rcases of_cond h with ⟨hc111, h⟩ | ⟨hc111, h⟩
                            · skip
                              refine RegI.fix 114 true hc111 (by kernel_rfl) (by kernel_rfl) ?_
                              refine RegI.pure 12 [10, 123, 126] [(10, .pointer (some ⟨b63, 0, none⟩)), (123, .bool true), (126, .bool (t79 != 0))] (by kernel_rfl) ?_
                              rcases of_cond h with ⟨hc112, h⟩ | ⟨hc112, h⟩
                              · skip
                                refine RegI.fix 126 true hc112 (by kernel_rfl) (by kernel_rfl) ?_
                                refine RegI.pure 6 [4] [(4, .bool true)] (by kernel_rfl) ?_
                                refine RegI.done (by kernel_rfl) ?_
                                refine RunsI.ret (.bool true) (by kernel_rfl) (by kernel_rfl) ?_
                                obtain rfl := Option.some.inj h
                                exact ⟨rfl, h77.below⟩
                              · skip
                                refine RegI.fix 126 false hc112 (by kernel_rfl) (by kernel_rfl) ?_
                                refine RegI.pure 1 [123, 126, 127] [(123, .bool true), (126, .bool false), (127, .pointer (some ⟨b63, 3, none⟩))] (by kernel_rfl) ?_
                                refine RegI.op (by kernel_rfl) (OpE.loadBox 128 5 28 b63 3 (.int .u16 t58) h77 (by kernel_rfl) (by kernel_rfl) rfl (by kernel_rfl) ?_)
                                refine RegI.pure 4 [4] [(4, .bool (t58 == 0))] (by kernel_rfl) ?_
                                refine RegI.done (by kernel_rfl) ?_
                                refine RunsI.ret (.bool (t58 == 0)) (by kernel_rfl) (by kernel_rfl) ?_
                                obtain rfl := Option.some.inj h
                                exact ⟨rfl, h77.below⟩
                            · skip
                              refine RegI.fix 114 false hc111 (by kernel_rfl) (by kernel_rfl) ?_
                              refine RegI.pure 1 [2, 10, 13, 111, 114, 115] [(2, .pointer (some ⟨b2, 0, none⟩)), (10, .pointer (some ⟨b63, 0, none⟩)), (13, .int .i64 t79), (111, .bool true), (114, .bool false), (115, .pointer (some ⟨b63, 3, none⟩))] (by kernel_rfl) ?_
                              refine RegI.op (by kernel_rfl) (OpE.loadBox 116 5 28 b63 3 (.int .u16 t58) h77 (by kernel_rfl) (by kernel_rfl) rfl (by kernel_rfl) ?_)
                              refine RegI.pure 1 [10, 13, 111, 114, 116, 117] [(10, .pointer (some ⟨b63, 0, none⟩)), (13, .int .i64 t79), (111, .bool true), (114, .bool false), (116, .int .u16 t58), (117, .pointer (some ⟨b2, 3, none⟩))] (by kernel_rfl) ?_
                              refine RegI.op (by kernel_rfl) (OpE.loadBox 118 1 28 b2 3 (.int .u16 p0_3) h77 (by kernel_rfl) (by kernel_rfl) rfl (by kernel_rfl) ?_)
                              refine RegI.pure 5 [10, 13, 123] [(10, .pointer (some ⟨b63, 0, none⟩)), (13, .int .i64 t79), (123, .bool (t58 == (Int.tmod p0_3 256)))] (by kernel_rfl) ?_
                              rcases of_cond h with ⟨hc113, h⟩ | ⟨hc113, h⟩
                              · skip
                                refine RegI.fix 123 true hc113 (by kernel_rfl) (by kernel_rfl) ?_
                                refine RegI.pure 3 [10, 123, 126] [(10, .pointer (some ⟨b63, 0, none⟩)), (123, .bool true), (126, .bool (t79 != 0))] (by kernel_rfl) ?_
                                rcases of_cond h with ⟨hc114, h⟩ | ⟨hc114, h⟩
                                · skip
                                  refine RegI.fix 126 true hc114 (by kernel_rfl) (by kernel_rfl) ?_
                                  refine RegI.pure 6 [4] [(4, .bool true)] (by kernel_rfl) ?_
                                  refine RegI.done (by kernel_rfl) ?_
                                  refine RunsI.ret (.bool true) (by kernel_rfl) (by kernel_rfl) ?_
                                  obtain rfl := Option.some.inj h
                                  exact ⟨rfl, h77.below⟩
                                · skip
                                  refine RegI.fix 126 false hc114 (by kernel_rfl) (by kernel_rfl) ?_
                                  refine RegI.pure 1 [123, 126, 127] [(123, .bool true), (126, .bool false), (127, .pointer (some ⟨b63, 3, none⟩))] (by kernel_rfl) ?_
                                  refine RegI.op (by kernel_rfl) (OpE.loadBox 128 5 28 b63 3 (.int .u16 t58) h77 (by kernel_rfl) (by kernel_rfl) rfl (by kernel_rfl) ?_)
                                  refine RegI.pure 4 [4] [(4, .bool (t58 == 0))] (by kernel_rfl) ?_
                                  refine RegI.done (by kernel_rfl) ?_
                                  refine RunsI.ret (.bool (t58 == 0)) (by kernel_rfl) (by kernel_rfl) ?_
                                  obtain rfl := Option.some.inj h
                                  exact ⟨rfl, h77.below⟩
                              · skip
                                refine RegI.fix 123 false hc113 (by kernel_rfl) (by kernel_rfl) ?_
                                refine RegI.pure 9 [4] [(4, .bool false)] (by kernel_rfl) ?_
                                refine RegI.done (by kernel_rfl) ?_
                                refine RunsI.ret (.bool false) (by kernel_rfl) (by kernel_rfl) ?_
                                obtain rfl := Option.some.inj h
                                exact ⟨rfl, h77.below⟩
                          · skip
                            refine RegI.fix 103 false hc110 (by kernel_rfl) (by kernel_rfl) ?_
                            refine RegI.pure 1 [2, 10, 13, 100, 103, 104] [(2, .pointer (some ⟨b2, 0, none⟩)), (10, .pointer (some ⟨b63, 0, none⟩)), (13, .int .i64 t79), (100, .bool true), (103, .bool false), (104, .pointer (some ⟨b63, 3, none⟩))] (by kernel_rfl) ?_
                            refine RegI.op (by kernel_rfl) (OpE.loadBox 105 5 28 b63 3 (.int .u16 t58) h77 (by kernel_rfl) (by kernel_rfl) rfl (by kernel_rfl) ?_)
                            refine RegI.pure 1 [2, 10, 13, 100, 103, 105, 106] [(2, .pointer (some ⟨b2, 0, none⟩)), (10, .pointer (some ⟨b63, 0, none⟩)), (13, .int .i64 t79), (100, .bool true), (103, .bool false), (105, .int .u16 t58), (106, .pointer (some ⟨b2, 3, none⟩))] (by kernel_rfl) ?_
                            refine RegI.op (by kernel_rfl) (OpE.loadBox 107 1 28 b2 3 (.int .u16 p0_3) h77 (by kernel_rfl) (by kernel_rfl) rfl (by kernel_rfl) ?_)
                            refine RegI.pure 4 [2, 10, 13, 111] [(2, .pointer (some ⟨b2, 0, none⟩)), (10, .pointer (some ⟨b63, 0, none⟩)), (13, .int .i64 t79), (111, .bool (t58 == p0_3))] (by kernel_rfl) ?_
                            rcases of_cond h with ⟨hc115, h⟩ | ⟨hc115, h⟩
                            · skip
                              refine RegI.fix 111 true hc115 (by kernel_rfl) (by kernel_rfl) ?_
                              refine RegI.pure 3 [2, 10, 13, 111, 114] [(2, .pointer (some ⟨b2, 0, none⟩)), (10, .pointer (some ⟨b63, 0, none⟩)), (13, .int .i64 t79), (111, .bool true), (114, .bool (t79 != 1))] (by kernel_rfl) ?_
                              rcases of_cond h with ⟨hc116, h⟩ | ⟨hc116, h⟩
                              · skip
                                refine RegI.fix 114 true hc116 (by kernel_rfl) (by kernel_rfl) ?_
                                refine RegI.pure 12 [10, 123, 126] [(10, .pointer (some ⟨b63, 0, none⟩)), (123, .bool true), (126, .bool (t79 != 0))] (by kernel_rfl) ?_
                                rcases of_cond h with ⟨hc117, h⟩ | ⟨hc117, h⟩
                                · skip
                                  refine RegI.fix 126 true hc117 (by kernel_rfl) (by kernel_rfl) ?_
                                  refine RegI.pure 6 [4] [(4, .bool true)] (by kernel_rfl) ?_
                                  refine RegI.done (by kernel_rfl) ?_
                                  refine RunsI.ret (.bool true) (by kernel_rfl) (by kernel_rfl) ?_
                                  obtain rfl := Option.some.inj h
                                  exact ⟨rfl, h77.below⟩
                                · skip
                                  refine RegI.fix 126 false hc117 (by kernel_rfl) (by kernel_rfl) ?_
                                  refine RegI.pure 1 [123, 126, 127] [(123, .bool true), (126, .bool false), (127, .pointer (some ⟨b63, 3, none⟩))] (by kernel_rfl) ?_
                                  refine RegI.op (by kernel_rfl) (OpE.loadBox 128 5 28 b63 3 (.int .u16 t58) h77 (by kernel_rfl) (by kernel_rfl) rfl (by kernel_rfl) ?_)
                                  refine RegI.pure 4 [4] [(4, .bool (t58 == 0))] (by kernel_rfl) ?_
                                  refine RegI.done (by kernel_rfl) ?_
                                  refine RunsI.ret (.bool (t58 == 0)) (by kernel_rfl) (by kernel_rfl) ?_
                                  obtain rfl := Option.some.inj h
                                  exact ⟨rfl, h77.below⟩
                              · skip
                                refine RegI.fix 114 false hc116 (by kernel_rfl) (by kernel_rfl) ?_
                                refine RegI.pure 1 [2, 10, 13, 111, 114, 115] [(2, .pointer (some ⟨b2, 0, none⟩)), (10, .pointer (some ⟨b63, 0, none⟩)), (13, .int .i64 t79), (111, .bool true), (114, .bool false), (115, .pointer (some ⟨b63, 3, none⟩))] (by kernel_rfl) ?_
                                refine RegI.op (by kernel_rfl) (OpE.loadBox 116 5 28 b63 3 (.int .u16 t58) h77 (by kernel_rfl) (by kernel_rfl) rfl (by kernel_rfl) ?_)
                                refine RegI.pure 1 [10, 13, 111, 114, 116, 117] [(10, .pointer (some ⟨b63, 0, none⟩)), (13, .int .i64 t79), (111, .bool true), (114, .bool false), (116, .int .u16 t58), (117, .pointer (some ⟨b2, 3, none⟩))] (by kernel_rfl) ?_
                                refine RegI.op (by kernel_rfl) (OpE.loadBox 118 1 28 b2 3 (.int .u16 p0_3) h77 (by kernel_rfl) (by kernel_rfl) rfl (by kernel_rfl) ?_)
                                refine RegI.pure 5 [10, 13, 123] [(10, .pointer (some ⟨b63, 0, none⟩)), (13, .int .i64 t79), (123, .bool (t58 == (Int.tmod p0_3 256)))] (by kernel_rfl) ?_
                                rcases of_cond h with ⟨hc118, h⟩ | ⟨hc118, h⟩
                                · skip
                                  refine RegI.fix 123 true hc118 (by kernel_rfl) (by kernel_rfl) ?_
                                  refine RegI.pure 3 [10, 123, 126] [(10, .pointer (some ⟨b63, 0, none⟩)), (123, .bool true), (126, .bool (t79 != 0))] (by kernel_rfl) ?_
                                  rcases of_cond h with ⟨hc119, h⟩ | ⟨hc119, h⟩
                                  · skip
                                    refine RegI.fix 126 true hc119 (by kernel_rfl) (by kernel_rfl) ?_
                                    refine RegI.pure 6 [4] [(4, .bool true)] (by kernel_rfl) ?_
                                    refine RegI.done (by kernel_rfl) ?_
                                    refine RunsI.ret (.bool true) (by kernel_rfl) (by kernel_rfl) ?_
                                    obtain rfl := Option.some.inj h
                                    exact ⟨rfl, h77.below⟩
                                  · skip
                                    refine RegI.fix 126 false hc119 (by kernel_rfl) (by kernel_rfl) ?_
                                    refine RegI.pure 1 [123, 126, 127] [(123, .bool true), (126, .bool false), (127, .pointer (some ⟨b63, 3, none⟩))] (by kernel_rfl) ?_
                                    refine RegI.op (by kernel_rfl) (OpE.loadBox 128 5 28 b63 3 (.int .u16 t58) h77 (by kernel_rfl) (by kernel_rfl) rfl (by kernel_rfl) ?_)
                                    refine RegI.pure 4 [4] [(4, .bool (t58 == 0))] (by kernel_rfl) ?_
                                    refine RegI.done (by kernel_rfl) ?_
                                    refine RunsI.ret (.bool (t58 == 0)) (by kernel_rfl) (by kernel_rfl) ?_
                                    obtain rfl := Option.some.inj h
                                    exact ⟨rfl, h77.below⟩
                                · skip
                                  refine RegI.fix 123 false hc118 (by kernel_rfl) (by kernel_rfl) ?_
                                  refine RegI.pure 9 [4] [(4, .bool false)] (by kernel_rfl) ?_
                                  refine RegI.done (by kernel_rfl) ?_
                                  refine RunsI.ret (.bool false) (by kernel_rfl) (by kernel_rfl) ?_
                                  obtain rfl := Option.some.inj h
                                  exact ⟨rfl, h77.below⟩
                            · skip
                              refine RegI.fix 111 false hc115 (by kernel_rfl) (by kernel_rfl) ?_
                              refine RegI.pure 21 [4] [(4, .bool false)] (by kernel_rfl) ?_
                              refine RegI.done (by kernel_rfl) ?_
                              refine RunsI.ret (.bool false) (by kernel_rfl) (by kernel_rfl) ?_
                              obtain rfl := Option.some.inj h
                              exact ⟨rfl, h77.below⟩
                        · skip
                          refine RegI.fix 94 false hc109 (by kernel_rfl) (by kernel_rfl) ?_
                          refine RegI.pure 1 [2, 10, 13, 92, 94, 95] [(2, .pointer (some ⟨b2, 0, none⟩)), (10, .pointer (some ⟨b63, 0, none⟩)), (13, .int .i64 t79), (92, .bool true), (94, .bool false), (95, .pointer (some ⟨b63, 2, none⟩))] (by kernel_rfl) ?_
                          refine RegI.op (by kernel_rfl) (OpE.loadBox 96 5 5 b63 2 (.int .u8 t57) h77 (by kernel_rfl) (by kernel_rfl) rfl (by kernel_rfl) ?_)
                          refine RegI.pure 4 [2, 10, 13, 100] [(2, .pointer (some ⟨b2, 0, none⟩)), (10, .pointer (some ⟨b63, 0, none⟩)), (13, .int .i64 t79), (100, .bool (t57 == 0))] (by kernel_rfl) ?_
                          rcases of_cond h with ⟨hc120, h⟩ | ⟨hc120, h⟩
                          · skip
                            refine RegI.fix 100 true hc120 (by kernel_rfl) (by kernel_rfl) ?_
                            refine RegI.pure 3 [2, 10, 13, 100, 103] [(2, .pointer (some ⟨b2, 0, none⟩)), (10, .pointer (some ⟨b63, 0, none⟩)), (13, .int .i64 t79), (100, .bool true), (103, .bool (t79 != 2))] (by kernel_rfl) ?_
                            rcases of_cond h with ⟨hc121, h⟩ | ⟨hc121, h⟩
                            · skip
                              refine RegI.fix 103 true hc121 (by kernel_rfl) (by kernel_rfl) ?_
                              refine RegI.pure 11 [2, 10, 13, 111, 114] [(2, .pointer (some ⟨b2, 0, none⟩)), (10, .pointer (some ⟨b63, 0, none⟩)), (13, .int .i64 t79), (111, .bool true), (114, .bool (t79 != 1))] (by kernel_rfl) ?_
                              rcases of_cond h with ⟨hc122, h⟩ | ⟨hc122, h⟩
                              · skip
                                refine RegI.fix 114 true hc122 (by kernel_rfl) (by kernel_rfl) ?_
                                refine RegI.pure 12 [10, 123, 126] [(10, .pointer (some ⟨b63, 0, none⟩)), (123, .bool true), (126, .bool (t79 != 0))] (by kernel_rfl) ?_
                                rcases of_cond h with ⟨hc123, h⟩ | ⟨hc123, h⟩
                                · skip
                                  refine RegI.fix 126 true hc123 (by kernel_rfl) (by kernel_rfl) ?_
                                  refine RegI.pure 6 [4] [(4, .bool true)] (by kernel_rfl) ?_
                                  refine RegI.done (by kernel_rfl) ?_
                                  refine RunsI.ret (.bool true) (by kernel_rfl) (by kernel_rfl) ?_
                                  obtain rfl := Option.some.inj h
                                  exact ⟨rfl, h77.below⟩
                                · skip
                                  refine RegI.fix 126 false hc123 (by kernel_rfl) (by kernel_rfl) ?_
                                  refine RegI.pure 1 [123, 126, 127] [(123, .bool true), (126, .bool false), (127, .pointer (some ⟨b63, 3, none⟩))] (by kernel_rfl) ?_
                                  refine RegI.op (by kernel_rfl) (OpE.loadBox 128 5 28 b63 3 (.int .u16 t58) h77 (by kernel_rfl) (by kernel_rfl) rfl (by kernel_rfl) ?_)
                                  refine RegI.pure 4 [4] [(4, .bool (t58 == 0))] (by kernel_rfl) ?_
                                  refine RegI.done (by kernel_rfl) ?_
                                  refine RunsI.ret (.bool (t58 == 0)) (by kernel_rfl) (by kernel_rfl) ?_
                                  obtain rfl := Option.some.inj h
                                  exact ⟨rfl, h77.below⟩
                              · skip
                                refine RegI.fix 114 false hc122 (by kernel_rfl) (by kernel_rfl) ?_
                                refine RegI.pure 1 [2, 10, 13, 111, 114, 115] [(2, .pointer (some ⟨b2, 0, none⟩)), (10, .pointer (some ⟨b63, 0, none⟩)), (13, .int .i64 t79), (111, .bool true), (114, .bool false), (115, .pointer (some ⟨b63, 3, none⟩))] (by kernel_rfl) ?_
                                refine RegI.op (by kernel_rfl) (OpE.loadBox 116 5 28 b63 3 (.int .u16 t58) h77 (by kernel_rfl) (by kernel_rfl) rfl (by kernel_rfl) ?_)
                                refine RegI.pure 1 [10, 13, 111, 114, 116, 117] [(10, .pointer (some ⟨b63, 0, none⟩)), (13, .int .i64 t79), (111, .bool true), (114, .bool false), (116, .int .u16 t58), (117, .pointer (some ⟨b2, 3, none⟩))] (by kernel_rfl) ?_
                                refine RegI.op (by kernel_rfl) (OpE.loadBox 118 1 28 b2 3 (.int .u16 p0_3) h77 (by kernel_rfl) (by kernel_rfl) rfl (by kernel_rfl) ?_)
                                refine RegI.pure 5 [10, 13, 123] [(10, .pointer (some ⟨b63, 0, none⟩)), (13, .int .i64 t79), (123, .bool (t58 == (Int.tmod p0_3 256)))] (by kernel_rfl) ?_
                                rcases of_cond h with ⟨hc124, h⟩ | ⟨hc124, h⟩
                                · skip
                                  refine RegI.fix 123 true hc124 (by kernel_rfl) (by kernel_rfl) ?_
                                  refine RegI.pure 3 [10, 123, 126] [(10, .pointer (some ⟨b63, 0, none⟩)), (123, .bool true), (126, .bool (t79 != 0))] (by kernel_rfl) ?_
                                  rcases of_cond h with ⟨hc125, h⟩ | ⟨hc125, h⟩
                                  · skip
                                    refine RegI.fix 126 true hc125 (by kernel_rfl) (by kernel_rfl) ?_
                                    refine RegI.pure 6 [4] [(4, .bool true)] (by kernel_rfl) ?_
                                    refine RegI.done (by kernel_rfl) ?_
                                    refine RunsI.ret (.bool true) (by kernel_rfl) (by kernel_rfl) ?_
                                    obtain rfl := Option.some.inj h
                                    exact ⟨rfl, h77.below⟩
                                  · skip
                                    refine RegI.fix 126 false hc125 (by kernel_rfl) (by kernel_rfl) ?_
                                    refine RegI.pure 1 [123, 126, 127] [(123, .bool true), (126, .bool false), (127, .pointer (some ⟨b63, 3, none⟩))] (by kernel_rfl) ?_
                                    refine RegI.op (by kernel_rfl) (OpE.loadBox 128 5 28 b63 3 (.int .u16 t58) h77 (by kernel_rfl) (by kernel_rfl) rfl (by kernel_rfl) ?_)
                                    refine RegI.pure 4 [4] [(4, .bool (t58 == 0))] (by kernel_rfl) ?_
                                    refine RegI.done (by kernel_rfl) ?_
                                    refine RunsI.ret (.bool (t58 == 0)) (by kernel_rfl) (by kernel_rfl) ?_
                                    obtain rfl := Option.some.inj h
                                    exact ⟨rfl, h77.below⟩
                                · skip
                                  refine RegI.fix 123 false hc124 (by kernel_rfl) (by kernel_rfl) ?_
                                  refine RegI.pure 9 [4] [(4, .bool false)] (by kernel_rfl) ?_
                                  refine RegI.done (by kernel_rfl) ?_
                                  refine RunsI.ret (.bool false) (by kernel_rfl) (by kernel_rfl) ?_
                                  obtain rfl := Option.some.inj h
                                  exact ⟨rfl, h77.below⟩
                            · skip
                              refine RegI.fix 103 false hc121 (by kernel_rfl) (by kernel_rfl) ?_
                              refine RegI.pure 1 [2, 10, 13, 100, 103, 104] [(2, .pointer (some ⟨b2, 0, none⟩)), (10, .pointer (some ⟨b63, 0, none⟩)), (13, .int .i64 t79), (100, .bool true), (103, .bool false), (104, .pointer (some ⟨b63, 3, none⟩))] (by kernel_rfl) ?_
                              refine RegI.op (by kernel_rfl) (OpE.loadBox 105 5 28 b63 3 (.int .u16 t58) h77 (by kernel_rfl) (by kernel_rfl) rfl (by kernel_rfl) ?_)
                              refine RegI.pure 1 [2, 10, 13, 100, 103, 105, 106] [(2, .pointer (some ⟨b2, 0, none⟩)), (10, .pointer (some ⟨b63, 0, none⟩)), (13, .int .i64 t79), (100, .bool true), (103, .bool false), (105, .int .u16 t58), (106, .pointer (some ⟨b2, 3, none⟩))] (by kernel_rfl) ?_
                              refine RegI.op (by kernel_rfl) (OpE.loadBox 107 1 28 b2 3 (.int .u16 p0_3) h77 (by kernel_rfl) (by kernel_rfl) rfl (by kernel_rfl) ?_)
                              refine RegI.pure 4 [2, 10, 13, 111] [(2, .pointer (some ⟨b2, 0, none⟩)), (10, .pointer (some ⟨b63, 0, none⟩)), (13, .int .i64 t79), (111, .bool (t58 == p0_3))] (by kernel_rfl) ?_
                              rcases of_cond h with ⟨hc126, h⟩ | ⟨hc126, h⟩
                              · skip
                                refine RegI.fix 111 true hc126 (by kernel_rfl) (by kernel_rfl) ?_
                                refine RegI.pure 3 [2, 10, 13, 111, 114] [(2, .pointer (some ⟨b2, 0, none⟩)), (10, .pointer (some ⟨b63, 0, none⟩)), (13, .int .i64 t79), (111, .bool true), (114, .bool (t79 != 1))] (by kernel_rfl) ?_
                                rcases of_cond h with ⟨hc127, h⟩ | ⟨hc127, h⟩
                                · skip
                                  refine RegI.fix 114 true hc127 (by kernel_rfl) (by kernel_rfl) ?_
                                  refine RegI.pure 12 [10, 123, 126] [(10, .pointer (some ⟨b63, 0, none⟩)), (123, .bool true), (126, .bool (t79 != 0))] (by kernel_rfl) ?_
                                  rcases of_cond h with ⟨hc128, h⟩ | ⟨hc128, h⟩
                                  · skip
                                    refine RegI.fix 126 true hc128 (by kernel_rfl) (by kernel_rfl) ?_
                                    refine RegI.pure 6 [4] [(4, .bool true)] (by kernel_rfl) ?_
                                    refine RegI.done (by kernel_rfl) ?_
                                    refine RunsI.ret (.bool true) (by kernel_rfl) (by kernel_rfl) ?_
                                    obtain rfl := Option.some.inj h
                                    exact ⟨rfl, h77.below⟩
                                  · skip
                                    refine RegI.fix 126 false hc128 (by kernel_rfl) (by kernel_rfl) ?_
                                    refine RegI.pure 1 [123, 126, 127] [(123, .bool true), (126, .bool false), (127, .pointer (some ⟨b63, 3, none⟩))] (by kernel_rfl) ?_
                                    refine RegI.op (by kernel_rfl) (OpE.loadBox 128 5 28 b63 3 (.int .u16 t58) h77 (by kernel_rfl) (by kernel_rfl) rfl (by kernel_rfl) ?_)
                                    refine RegI.pure 4 [4] [(4, .bool (t58 == 0))] (by kernel_rfl) ?_
                                    refine RegI.done (by kernel_rfl) ?_
                                    refine RunsI.ret (.bool (t58 == 0)) (by kernel_rfl) (by kernel_rfl) ?_
                                    obtain rfl := Option.some.inj h
                                    exact ⟨rfl, h77.below⟩
                                · skip
                                  refine RegI.fix 114 false hc127 (by kernel_rfl) (by kernel_rfl) ?_
                                  refine RegI.pure 1 [2, 10, 13, 111, 114, 115] [(2, .pointer (some ⟨b2, 0, none⟩)), (10, .pointer (some ⟨b63, 0, none⟩)), (13, .int .i64 t79), (111, .bool true), (114, .bool false), (115, .pointer (some ⟨b63, 3, none⟩))] (by kernel_rfl) ?_
                                  refine RegI.op (by kernel_rfl) (OpE.loadBox 116 5 28 b63 3 (.int .u16 t58) h77 (by kernel_rfl) (by kernel_rfl) rfl (by kernel_rfl) ?_)
                                  refine RegI.pure 1 [10, 13, 111, 114, 116, 117] [(10, .pointer (some ⟨b63, 0, none⟩)), (13, .int .i64 t79), (111, .bool true), (114, .bool false), (116, .int .u16 t58), (117, .pointer (some ⟨b2, 3, none⟩))] (by kernel_rfl) ?_
                                  refine RegI.op (by kernel_rfl) (OpE.loadBox 118 1 28 b2 3 (.int .u16 p0_3) h77 (by kernel_rfl) (by kernel_rfl) rfl (by kernel_rfl) ?_)
                                  refine RegI.pure 5 [10, 13, 123] [(10, .pointer (some ⟨b63, 0, none⟩)), (13, .int .i64 t79), (123, .bool (t58 == (Int.tmod p0_3 256)))] (by kernel_rfl) ?_
                                  rcases of_cond h with ⟨hc129, h⟩ | ⟨hc129, h⟩
                                  · skip
                                    refine RegI.fix 123 true hc129 (by kernel_rfl) (by kernel_rfl) ?_
                                    refine RegI.pure 3 [10, 123, 126] [(10, .pointer (some ⟨b63, 0, none⟩)), (123, .bool true), (126, .bool (t79 != 0))] (by kernel_rfl) ?_
                                    rcases of_cond h with ⟨hc130, h⟩ | ⟨hc130, h⟩
                                    · skip
                                      refine RegI.fix 126 true hc130 (by kernel_rfl) (by kernel_rfl) ?_
                                      refine RegI.pure 6 [4] [(4, .bool true)] (by kernel_rfl) ?_
                                      refine RegI.done (by kernel_rfl) ?_
                                      refine RunsI.ret (.bool true) (by kernel_rfl) (by kernel_rfl) ?_
                                      obtain rfl := Option.some.inj h
                                      exact ⟨rfl, h77.below⟩
                                    · skip
                                      refine RegI.fix 126 false hc130 (by kernel_rfl) (by kernel_rfl) ?_
                                      refine RegI.pure 1 [123, 126, 127] [(123, .bool true), (126, .bool false), (127, .pointer (some ⟨b63, 3, none⟩))] (by kernel_rfl) ?_
                                      refine RegI.op (by kernel_rfl) (OpE.loadBox 128 5 28 b63 3 (.int .u16 t58) h77 (by kernel_rfl) (by kernel_rfl) rfl (by kernel_rfl) ?_)
                                      refine RegI.pure 4 [4] [(4, .bool (t58 == 0))] (by kernel_rfl) ?_
                                      refine RegI.done (by kernel_rfl) ?_
                                      refine RunsI.ret (.bool (t58 == 0)) (by kernel_rfl) (by kernel_rfl) ?_
                                      obtain rfl := Option.some.inj h
                                      exact ⟨rfl, h77.below⟩
                                  · skip
                                    refine RegI.fix 123 false hc129 (by kernel_rfl) (by kernel_rfl) ?_
                                    refine RegI.pure 9 [4] [(4, .bool false)] (by kernel_rfl) ?_
                                    refine RegI.done (by kernel_rfl) ?_
                                    refine RunsI.ret (.bool false) (by kernel_rfl) (by kernel_rfl) ?_
                                    obtain rfl := Option.some.inj h
                                    exact ⟨rfl, h77.below⟩
                              · skip
                                refine RegI.fix 111 false hc126 (by kernel_rfl) (by kernel_rfl) ?_
                                refine RegI.pure 21 [4] [(4, .bool false)] (by kernel_rfl) ?_
                                refine RegI.done (by kernel_rfl) ?_
                                refine RunsI.ret (.bool false) (by kernel_rfl) (by kernel_rfl) ?_
                                obtain rfl := Option.some.inj h
                                exact ⟨rfl, h77.below⟩
                          · skip
                            refine RegI.fix 100 false hc120 (by kernel_rfl) (by kernel_rfl) ?_
                            refine RegI.pure 32 [4] [(4, .bool false)] (by kernel_rfl) ?_
                            refine RegI.done (by kernel_rfl) ?_
                            refine RunsI.ret (.bool false) (by kernel_rfl) (by kernel_rfl) ?_
                            obtain rfl := Option.some.inj h
                            exact ⟨rfl, h77.below⟩
                      · skip
                        refine RegI.fix 92 false hc108 (by kernel_rfl) (by kernel_rfl) ?_
                        refine RegI.pure 40 [4] [(4, .bool false)] (by kernel_rfl) ?_
                        refine RegI.done (by kernel_rfl) ?_
                        refine RunsI.ret (.bool false) (by kernel_rfl) (by kernel_rfl) ?_
                        obtain rfl := Option.some.inj h
                        exact ⟨rfl, h77.below⟩
                  · skip
                    refine RegI.fix 81 false hc84 (by kernel_rfl) (by kernel_rfl) ?_
                    refine RegI.pure 51 [4] [(4, .bool false)] (by kernel_rfl) ?_
                    refine RegI.done (by kernel_rfl) ?_
                    refine RunsI.ret (.bool false) (by kernel_rfl) (by kernel_rfl) ?_
                    obtain rfl := Option.some.inj h
                    exact ⟨rfl, h77.below⟩
                · skip
                  refine RegI.fix 76 false hc83 (by kernel_rfl) (by kernel_rfl) ?_
                  refine RegI.pure 56 [4] [(4, .bool false)] (by kernel_rfl) ?_
                  refine RegI.done (by kernel_rfl) ?_
                  refine RunsI.ret (.bool false) (by kernel_rfl) (by kernel_rfl) ?_
                  obtain rfl := Option.some.inj h
                  exact ⟨rfl, h77.below⟩
              · skip
                refine RegI.fix 69 false hc82 (by kernel_rfl) (by kernel_rfl) ?_
                refine RegI.pure 63 [4] [(4, .bool false)] (by kernel_rfl) ?_
                refine RegI.done (by kernel_rfl) ?_
                refine RunsI.ret (.bool false) (by kernel_rfl) (by kernel_rfl) ?_
                obtain rfl := Option.some.inj h
                exact ⟨rfl, h77.below⟩
            · skip
              refine RegI.fix 62 false hc81 (by kernel_rfl) (by kernel_rfl) ?_
              refine RegI.pure 70 [4] [(4, .bool false)] (by kernel_rfl) ?_
              refine RegI.done (by kernel_rfl) ?_
              refine RunsI.ret (.bool false) (by kernel_rfl) (by kernel_rfl) ?_
              obtain rfl := Option.some.inj h
              exact ⟨rfl, h77.below⟩
          · skip
            refine RegI.fix 55 false hc80 (by kernel_rfl) (by kernel_rfl) ?_
            refine RegI.pure 77 [4] [(4, .bool false)] (by kernel_rfl) ?_
            refine RegI.done (by kernel_rfl) ?_
            refine RunsI.ret (.bool false) (by kernel_rfl) (by kernel_rfl) ?_
            obtain rfl := Option.some.inj h
            exact ⟨rfl, h77.below⟩
end
end Go.Proofs.Ytmcdkmakjjlcnaa.Dec
