/- The statement's function BanksLoad as a plain Lean function; written by wip/eng.py. -/
import Derived.Test.YtngcadmhnbpgjaaBanks2
set_option linter.unusedVariables false
set_option linter.unusedSimpArgs false
set_option maxHeartbeats 4000000
namespace Go.Proofs.Ytngcadmhnbpgjaa.Banks
open Go.RowKit Go.Eng
noncomputable def B8 : Code := (Try.f8.body).getD .skip
noncomputable def F8 : Fun Try.prog := ⟨8, Try.f8, B8, 36, Try.func8, by kernel_rfl, by kernel_rfl⟩

/-! ### charabanc/charabanclaw19.BanksLoad (function 8) -/
section
def charabanclaw19_BanksLoad_8.post (M0 : Nat → Prop) (w0 : World) (r : Bool) : Ending → World → Prop := fun e w => e = .returned (.bool r) ∧ Below w0.heap.size w0 w
def charabanclaw19_BanksLoad_8.f (K : Nat) (p0_0 : List Int) (p0_1 : Int) (p0_2 : Int) (p0_3 : List (Int × Int)) (p1 : Int) (p2 : List Int) : Option Bool := (charabanclaw19_awake_29.f K).bind fun t9 => cond (!t9) (some false) ((charabanclaw19_few_30.f K p0_0 p0_1 p0_2 p0_3).bind fun t15 => Let (fun (t18 : Bool) => cond t18 (some true) ((banks_Load_43.f K p0_0 p0_1 p0_2 p0_3 p1 p2).bind fun yt37 => (charabanclaw19_plain_33.f K yt37.1 yt37.2.1 yt37.2.2.1 yt37.2.2.2).bind fun yt57 => (charabanclaw19_plain_33.f K p0_0 p0_1 p0_2 p0_3).bind fun yt77 => (charabancref19_Load_44.f K yt77.1 yt77.2.1 yt77.2.2.1 yt77.2.2.2 p1 p2).bind fun yt98 => (charabancref19_Same_38.f K yt57.1 yt57.2.1 yt57.2.2.1 yt57.2.2.2 yt98.1 yt98.2.1 yt98.2.2.1 yt98.2.2.2).bind fun t118 => some t118)) (fun j21 => cond (!t15) (j21 true) (cond (decide ((p2.length : Int) > 60)) (j21 true) (j21 (decide (p1 > 1000000000))))))
set_option maxRecDepth 100000 in
theorem charabanclaw19_BanksLoad_8_ok (K : Nat) (M0 : Nat → Prop) (w0 : World) (pA0_0 : Option Addr) (pc0_0 : Nat) (pA0_3 : Option Addr) (pc0_3 : Nat) (pA2 : Option Addr) (pc2 : Nat) (p0_0 : List Int) (p0_1 : Int) (p0_2 : Int) (p0_3 : List (Int × Int)) (p1 : Int) (p2 : List Int) (ho : ∀ b, M0 b → b < w0.heap.size) (hs0_0 : Sl (Rp.int .u8) w0 M0 (.slice pA0_0 p0_0.length pc0_0) p0_0) (hs0_3 : Sl (Rp.pair (Rp.int .i64) (Rp.int .u8)) w0 M0 (.slice pA0_3 p0_3.length pc0_3) p0_3) (hs2 : Sl (Rp.int .u8) w0 M0 (.slice pA2 p2.length pc2) p2) {r : Bool} (h : charabanclaw19_BanksLoad_8.f K p0_0 p0_1 p0_2 p0_3 p1 p2 = some r) :
    Calls Try.prog 8 #[.agg #[.slice pA0_0 p0_0.length pc0_0, .int .i64 p0_1, .int .i64 p0_2, .slice pA0_3 p0_3.length pc0_3], .int .i64 p1, .slice pA2 p2.length pc2] w0 (charabanclaw19_BanksLoad_8.post M0 w0 r) := by
  unfold charabanclaw19_BanksLoad_8.f at h
  have h0 : Holds M0 w0 w0 [] := Holds.start ho
  have h00_0 := h0.addSl (Rp.int .u8) (.slice pA0_0 p0_0.length pc0_0) p0_0 (hs0_0.mono (fun _ _ hm => hm.elim id (fun hm => absurd hm (by simp [mines, sl]))))
  have h00_3 := h00_0.addSl (Rp.pair (Rp.int .i64) (Rp.int .u8)) (.slice pA0_3 p0_3.length pc0_3) p0_3 (hs0_3.mono (fun _ _ hm => hm.elim id (fun hm => absurd hm (by simp [mines, sl]))))
  have h02 := h00_3.addSl (Rp.int .u8) (.slice pA2 p2.length pc2) p2 (hs2.mono (fun _ _ hm => hm.elim id (fun hm => absurd hm (by simp [mines, sl]))))
  have h0 : Holds M0 w0 w0 [sl (Rp.int .u8) (.slice pA0_0 p0_0.length pc0_0) p0_0, sl (Rp.pair (Rp.int .i64) (Rp.int .u8)) (.slice pA0_3 p0_3.length pc0_3) p0_3, sl (Rp.int .u8) (.slice pA2 p2.length pc2) p2] := h02
  refine calls_of F8 rfl [.agg #[.slice pA0_0 p0_0.length pc0_0, .int .i64 p0_1, .int .i64 p0_2, .slice pA0_3 p0_3.length pc0_3], .int .i64 p1, .slice pA2 p2.length pc2] (by kernel_rfl) ?_
  refine RunsI.go 1 [.c 1, .c 2] (by kernel_rfl) ?_
  refine RunsI.region (by kernel_rfl) ?_
  refine RegI.op (by kernel_rfl) (OpE.box 3 53 [.slice pA0_0 p0_0.length pc0_0, .int .i64 p0_1, .int .i64 p0_2, .slice pA0_3 p0_3.length pc0_3] h0 (by kernel_rfl) (by kernel_rfl) ?_)
  intro w1 b2 h3 hb4
  refine RegI.pure 1 [1, 2, 3] [(1, .int .i64 p1), (2, .slice pA2 p2.length pc2), (3, .pointer (some ⟨b2, 0, none⟩))] (by kernel_rfl) ?_
  refine RegI.done (by kernel_rfl) ?_
  refine RunsI.go 1 [.c 3, .c 4] (by kernel_rfl) ?_
  refine RunsI.region (by kernel_rfl) ?_
  obtain ⟨t9, hg8, h⟩ := of_bind h
  refine RegI.op (by kernel_rfl) (OpE.call 9 (by kernel_rfl) 29 #[] (by kernel_rfl) ((charabanclaw19_awake_29_ok K _ w1  h3.old' hg8).mono ?_))
  rintro _ w5 ⟨rfl, hb6⟩
  refine ⟨_, rfl, ?_⟩
  have h7 := h3.call hb6
  refine RegI.pure 1 [1, 2, 3, 7] [(1, .int .i64 p1), (2, .slice pA2 p2.length pc2), (3, .pointer (some ⟨b2, 0, none⟩)), (7, .bool t9)] (by kernel_rfl) ?_
  refine RegI.done (by kernel_rfl) ?_
  refine RunsI.go 2 [.c 6, .c 7, .c 12] (by kernel_rfl) ?_
  refine RunsI.region (by kernel_rfl) ?_
  refine RegI.pure 2 [1, 2, 3, 11] [(1, .int .i64 p1), (2, .slice pA2 p2.length pc2), (3, .pointer (some ⟨b2, 0, none⟩)), (11, .bool (!t9))] (by kernel_rfl) ?_
  refine RegI.done (by kernel_rfl) ?_
  rcases of_cond h with ⟨hc10, h⟩ | ⟨hc10, h⟩
  · skip
    refine RunsI.fix 11 true hc10 (by kernel_rfl) (by kernel_rfl) ?_
    refine RunsI.cond true 8 (by kernel_rfl) ?_
    refine RunsI.go 1 [.c 9, .c 10, .c 12] (by kernel_rfl) ?_
    refine RunsI.region (by kernel_rfl) ?_
    refine RegI.pure 1 [6] [(6, .bool false)] (by kernel_rfl) ?_
    refine RegI.done (by kernel_rfl) ?_
    refine RunsI.ret (.bool false) (by kernel_rfl) (by kernel_rfl) ?_
    obtain rfl := Option.some.inj h
    exact ⟨rfl, h7.below⟩
  · skip
    refine RunsI.fix 11 false hc10 (by kernel_rfl) (by kernel_rfl) ?_
    refine RunsI.cond false 11 (by kernel_rfl) ?_
    refine RunsI.go 1 [.c 12] (by kernel_rfl) ?_
    refine RunsI.go 1 [.c 13, .c 14] (by kernel_rfl) ?_
    refine RunsI.region (by kernel_rfl) ?_
    refine RegI.op (by kernel_rfl) (OpE.loadBox 12 3 53 b2 0 (.agg #[.slice pA0_0 p0_0.length pc0_0, .int .i64 p0_1, .int .i64 p0_2, .slice pA0_3 p0_3.length pc0_3]) h7 (by kernel_rfl) (by kernel_rfl) rfl (by kernel_rfl) ?_)
    obtain ⟨t15, hg14, h⟩ := of_bind h
    refine RegI.op (by kernel_rfl) (OpE.call 13 (by kernel_rfl) 30 #[.agg #[.slice pA0_0 p0_0.length pc0_0, .int .i64 p0_1, .int .i64 p0_2, .slice pA0_3 p0_3.length pc0_3]] (by kernel_rfl) ((charabanclaw19_few_30_ok K _ w5  pA0_0 pc0_0 pA0_3 pc0_3 p0_0 p0_1 p0_2 p0_3 h7.old' (h7.get 0 rfl) (h7.get 1 rfl) hg14).mono ?_))
    rintro _ w11 ⟨rfl, hb12⟩
    refine ⟨_, rfl, ?_⟩
    have h13 := h7.call hb12
    refine RegI.pure 1 [1, 2, 3, 8] [(1, .int .i64 p1), (2, .slice pA2 p2.length pc2), (3, .pointer (some ⟨b2, 0, none⟩)), (8, .bool t15)] (by kernel_rfl) ?_
    refine RegI.done (by kernel_rfl) ?_
    refine RunsI.go 2 [.c 16, .c 17, .c 22] (by kernel_rfl) ?_
    refine RunsI.region (by kernel_rfl) ?_
    refine RegI.pure 3 [1, 2, 3, 16] [(1, .int .i64 p1), (2, .slice pA2 p2.length pc2), (3, .pointer (some ⟨b2, 0, none⟩)), (16, .bool (!t15))] (by kernel_rfl) ?_
    obtain ⟨j21, hJ22, h⟩ := of_let h
    have hj23 : ∀ (t18 : Bool) (w20 : World), j21 t18 = some r → Holds M0 w0 w20 [sl (Rp.int .u8) (.slice pA2 p2.length pc2) p2, box b2 53 [.slice pA0_0 p0_0.length pc0_0, .int .i64 p0_1, .int .i64 p0_2, .slice pA0_3 p0_3.length pc0_3], sl (Rp.int .u8) (.slice pA0_0 p0_0.length pc0_0) p0_0, sl (Rp.pair (Rp.int .i64) (Rp.int .u8)) (.slice pA0_3 p0_3.length pc0_3) p0_3] → RegI F8 16 [.c 17, .c 22] 11 [(1, .int .i64 p1), (2, .slice pA2 p2.length pc2), (3, .pointer (some ⟨b2, 0, none⟩)), (24, .bool t18)] w20 (charabanclaw19_BanksLoad_8.post M0 w0 r) := by
      intro t18 w20 h h19
      rw [hJ22] at h
      clear hJ22
      dsimp only at h
      refine RegI.done (by kernel_rfl) ?_
      rcases of_cond h with ⟨hc24, h⟩ | ⟨hc24, h⟩
      · skip
        refine RunsI.fix 24 true hc24 (by kernel_rfl) (by kernel_rfl) ?_
        refine RunsI.cond true 18 (by kernel_rfl) ?_
        refine RunsI.go 1 [.c 19, .c 20, .c 22] (by kernel_rfl) ?_
        refine RunsI.region (by kernel_rfl) ?_
        refine RegI.pure 1 [6] [(6, .bool true)] (by kernel_rfl) ?_
        refine RegI.done (by kernel_rfl) ?_
        refine RunsI.ret (.bool true) (by kernel_rfl) (by kernel_rfl) ?_
        obtain rfl := Option.some.inj h
        exact ⟨rfl, h19.below⟩
      · skip
        refine RunsI.fix 24 false hc24 (by kernel_rfl) (by kernel_rfl) ?_
        refine RunsI.cond false 21 (by kernel_rfl) ?_
        refine RunsI.go 1 [.c 22] (by kernel_rfl) ?_
        refine RunsI.go 1 [.c 23, .c 24] (by kernel_rfl) ?_
        refine RunsI.any 12 (by kernel_rfl) (by kernel_rfl) (by kernel_rfl) (Kp ([] : List Nat) (World.drew w20)) ?_
        have h26 := h19.drew
        generalize World.drew w20 = w25 at h26 ⊢
        have hS27 := Kp.refl ([] : List Nat) w25
        refine AnyE.loadBox 0 25 1 53 b2 0 (.agg #[.slice pA0_0 p0_0.length pc0_0, .int .i64 p0_1, .int .i64 p0_2, .slice pA0_3 p0_3.length pc0_3]) [] h26 rfl (by kernel_rfl) hS27 rfl rfl (by kernel_rfl) (by kernel_rfl) ?_
        refine AnyE.pure 1 26 (.int .i64 p1) (by kernel_rfl) hS27 (fun _ => by kernel_rfl) ?_
        refine AnyE.pure 2 27 (.slice pA2 p2.length pc2) (by kernel_rfl) hS27 (fun _ => by kernel_rfl) ?_
        refine AnyE.loadBox 5 30 1 53 b2 0 (.agg #[.slice pA0_0 p0_0.length pc0_0, .int .i64 p0_1, .int .i64 p0_2, .slice pA0_3 p0_3.length pc0_3]) [] h26 rfl (by kernel_rfl) hS27 rfl rfl (by kernel_rfl) (by kernel_rfl) ?_
        refine AnyE.pure 7 32 (.int .i64 p1) (by kernel_rfl) hS27 (fun _ => by kernel_rfl) ?_
        refine AnyE.pure 8 33 (.slice pA2 p2.length pc2) (by kernel_rfl) hS27 (fun _ => by kernel_rfl) ?_
        refine AnyE.one 3 (by kernel_rfl) (fun w29 hu30 => ?_)
        have h31 := h26.call hu30
        have hS32 := hS27.up hu30
        obtain ⟨⟨t37, t41, t42, t43⟩, hg36, h⟩ := of_bind h
        dsimp only at h
        refine OpE.call 28 (by kernel_rfl) 43 #[.agg #[.slice pA0_0 p0_0.length pc0_0, .int .i64 p0_1, .int .i64 p0_2, .slice pA0_3 p0_3.length pc0_3], .int .i64 p1, .slice pA2 p2.length pc2] (by kernel_rfl) ((banks_Load_43_ok K _ w29  pA0_0 pc0_0 pA0_3 pc0_3 pA2 pc2 p0_0 p0_1 p0_2 p0_3 p1 p2 h31.old' (h31.get 2 rfl) (h31.get 3 rfl) (h31.get 0 rfl) hg36).mono ?_)
        rintro _ w33 ⟨A38, c39, A44, c45, rfl, hr47⟩
        refine ⟨_, rfl, ?_⟩
        have hb34 := hr47.below
        have h35 := h31.join hr47
        have hS48 := hS32.up hb34
        refine ⟨hS48, ?_⟩
        refine AnyE.one 4 (by kernel_rfl) (fun w49 hu50 => ?_)
        have h51 := h35.call hu50
        have hS52 := hS48.up hu50
        obtain ⟨⟨t57, t61, t62, t63⟩, hg56, h⟩ := of_bind h
        dsimp only at h
        refine OpE.call 29 (by kernel_rfl) 33 #[.agg #[.slice A38 t37.length c39, .int .i64 t41, .int .i64 t42, .slice A44 t43.length c45]] (by kernel_rfl) ((charabanclaw19_plain_33_ok K _ w49  A38 c39 A44 c45 t37 t41 t42 t43 h51.old' (h51.get 4 rfl) (h51.get 5 rfl) hg56).mono ?_)
        rintro _ w53 ⟨A58, c59, A64, c65, rfl, hr67⟩
        refine ⟨_, rfl, ?_⟩
        have hb54 := hr67.below
        have h55 := h51.join hr67
        have hS68 := hS52.up hb54
        refine ⟨hS68, ?_⟩
        refine AnyE.one 6 (by kernel_rfl) (fun w69 hu70 => ?_)
        have h71 := h55.call hu70
        have hS72 := hS68.up hu70
        obtain ⟨⟨t77, t81, t82, t83⟩, hg76, h⟩ := of_bind h
        dsimp only at h
        refine OpE.call 31 (by kernel_rfl) 33 #[.agg #[.slice pA0_0 p0_0.length pc0_0, .int .i64 p0_1, .int .i64 p0_2, .slice pA0_3 p0_3.length pc0_3]] (by kernel_rfl) ((charabanclaw19_plain_33_ok K _ w69  pA0_0 pc0_0 pA0_3 pc0_3 p0_0 p0_1 p0_2 p0_3 h71.old' (h71.get 2 rfl) (h71.get 3 rfl) hg76).mono ?_)
        rintro _ w73 ⟨A78, c79, A84, c85, rfl, hr87⟩
        refine ⟨_, rfl, ?_⟩
        have hb74 := hr87.below
        have h75 := h71.join hr87
        have hS88 := hS72.up hb74
        refine ⟨hS88, ?_⟩
        refine AnyE.one 9 (by kernel_rfl) (fun w89 hu90 => ?_)
        have h91 := h75.call hu90
        have hS92 := hS88.up hu90
        obtain ⟨⟨t98, t102, t103, t104⟩, hg97, h⟩ := of_bind h
        dsimp only at h
        have h93 := h91.release 9 rfl
        refine OpE.call 34 (by kernel_rfl) 44 #[.agg #[.slice A78 t77.length c79, .int .i64 t81, .int .i64 t82, .slice A84 t83.length c85], .int .i64 p1, .slice pA2 p2.length pc2] (by kernel_rfl) ((charabancref19_Load_44_ok K _ w89  A78 c79 A84 c85 pA2 pc2 t77 t81 t82 t83 p1 p2 h93.old' (h93.get 8 rfl) (h93.get 9 rfl) (h93.get 0 rfl) hg97).mono ?_)
        rintro _ w94 ⟨A99, c100, A105, c106, rfl, hr108⟩
        refine ⟨_, rfl, ?_⟩
        have hb95 := hr108.below
        have h96 := h93.join hr108
        have hS109 := hS92.up hb95
        refine ⟨hS109, ?_⟩
        refine AnyE.one 10 (by kernel_rfl) (fun w110 hu111 => ?_)
        have h112 := h96.call hu111
        have hS113 := hS109.up hu111
        obtain ⟨t118, hg117, h⟩ := of_bind h
        refine OpE.call 35 (by kernel_rfl) 38 #[.agg #[.slice A58 t57.length c59, .int .i64 t61, .int .i64 t62, .slice A64 t63.length c65], .agg #[.slice A99 t98.length c100, .int .i64 t102, .int .i64 t103, .slice A105 t104.length c106]] (by kernel_rfl) ((charabancref19_Same_38_ok K (fun _ => False) w110  A58 c59 A64 c65 A99 c100 A105 c106 t57 t61 t62 t63 t98 t102 t103 t104 (fun _ hf => hf.elim) (h112.slAny 6 rfl) (h112.ownSl 7 rfl) (h112.slAny 10 rfl) (h112.slAny 11 rfl) hg117).mono ?_)
        rintro _ w114 ⟨rfl, hb115⟩
        refine ⟨_, rfl, ?_⟩
        have h116 := h112.call hb115
        have hS119 := hS113.up hb115
        refine ⟨hS119, ?_⟩
        refine AnyE.pure 11 6 (.bool t118) (by kernel_rfl) hS119 (fun _ => by kernel_rfl) ?_
        refine AnyE.done (by kernel_rfl) (fun w120 hu121 => ?_)
        have h122 := h116.call hu121
        refine RunsI.only [6] [(6, .bool t118)] (by kernel_rfl) (by kernel_rfl) ?_
        refine RunsI.ret (.bool t118) (by kernel_rfl) (by kernel_rfl) ?_
        obtain rfl := Option.some.inj h
        exact ⟨rfl, h122.below⟩
    clear hJ22
    rcases of_cond h with ⟨hc16, h⟩ | ⟨hc16, h⟩
    · skip
      refine RegI.fix 16 true hc16 (by kernel_rfl) (by kernel_rfl) ?_
      refine RegI.pure 8 [1, 2, 3, 24] [(1, .int .i64 p1), (2, .slice pA2 p2.length pc2), (3, .pointer (some ⟨b2, 0, none⟩)), (24, .bool true)] (by kernel_rfl) ?_
      refine RegI.only [1, 2, 3, 24] [(1, .int .i64 p1), (2, .slice pA2 p2.length pc2), (3, .pointer (some ⟨b2, 0, none⟩)), (24, .bool true)] (by kernel_rfl) (by kernel_rfl) ?_
      exact hj23 true w11 h (h13.pick [2, 3, 0, 1] (by decide))
    · skip
      refine RegI.fix 16 false hc16 (by kernel_rfl) (by kernel_rfl) ?_
      refine RegI.pure 5 [1, 2, 3, 21] [(1, .int .i64 p1), (2, .slice pA2 p2.length pc2), (3, .pointer (some ⟨b2, 0, none⟩)), (21, .bool (decide ((p2.length : Int) > 60)))] (by kernel_rfl) ?_
      rcases of_cond h with ⟨hc17, h⟩ | ⟨hc17, h⟩
      · skip
        refine RegI.fix 21 true hc17 (by kernel_rfl) (by kernel_rfl) ?_
        refine RegI.pure 3 [1, 2, 3, 24] [(1, .int .i64 p1), (2, .slice pA2 p2.length pc2), (3, .pointer (some ⟨b2, 0, none⟩)), (24, .bool true)] (by kernel_rfl) ?_
        refine RegI.only [1, 2, 3, 24] [(1, .int .i64 p1), (2, .slice pA2 p2.length pc2), (3, .pointer (some ⟨b2, 0, none⟩)), (24, .bool true)] (by kernel_rfl) (by kernel_rfl) ?_
        exact hj23 true w11 h (h13.pick [2, 3, 0, 1] (by decide))
      · skip
        refine RegI.fix 21 false hc17 (by kernel_rfl) (by kernel_rfl) ?_
        refine RegI.pure 3 [1, 2, 3, 24] [(1, .int .i64 p1), (2, .slice pA2 p2.length pc2), (3, .pointer (some ⟨b2, 0, none⟩)), (24, .bool (decide (p1 > 1000000000)))] (by kernel_rfl) ?_
        refine RegI.only [1, 2, 3, 24] [(1, .int .i64 p1), (2, .slice pA2 p2.length pc2), (3, .pointer (some ⟨b2, 0, none⟩)), (24, .bool (decide (p1 > 1000000000)))] (by kernel_rfl) (by kernel_rfl) ?_
        exact hj23 (decide (p1 > 1000000000)) w11 h (h13.pick [2, 3, 0, 1] (by decide))
end
end Go.Proofs.Ytngcadmhnbpgjaa.Banks
