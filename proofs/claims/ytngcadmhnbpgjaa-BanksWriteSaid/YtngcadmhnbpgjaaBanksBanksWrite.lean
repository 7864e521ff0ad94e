/- The statement's function BanksWrite as a plain Lean function; written by wip/eng.py. -/
import Derived.Test.YtngcadmhnbpgjaaBanks2
set_option linter.unusedVariables false
set_option linter.unusedSimpArgs false
set_option maxHeartbeats 4000000
namespace Go.Proofs.Ytngcadmhnbpgjaa.Banks
open Go.RowKit Go.Eng
noncomputable def B7 : Code := (Try.f7.body).getD .skip
noncomputable def F7 : Fun Try.prog := ⟨7, Try.f7, B7, 38, Try.func7, by kernel_rfl, by kernel_rfl⟩

/-! ### charabanc/charabanclaw19.BanksWrite (function 7) -/
section
def charabanclaw19_BanksWrite_7.post (M0 : Nat → Prop) (w0 : World) (r : Bool) : Ending → World → Prop := fun e w => e = .returned (.bool r) ∧ Below w0.heap.size w0 w
def charabanclaw19_BanksWrite_7.f (K : Nat) (p0_0 : List Int) (p0_1 : Int) (p0_2 : Int) (p0_3 : List (Int × Int)) (p1 : Int) (p2 : Int) : Option Bool := (charabanclaw19_awake_29.f K).bind fun t9 => cond (!t9) (some false) ((charabanclaw19_few_30.f K p0_0 p0_1 p0_2 p0_3).bind fun t15 => cond (!t15) (some true) ((banks_Write_39.f K p0_0 p0_1 p0_2 p0_3 p1 p2).bind fun yt29 => (charabanclaw19_plain_33.f K yt29.1 yt29.2.1 yt29.2.2.1 yt29.2.2.2).bind fun yt49 => (charabanclaw19_plain_33.f K p0_0 p0_1 p0_2 p0_3).bind fun yt69 => (charabancref19_Write_40.f K yt69.1 yt69.2.1 yt69.2.2.1 yt69.2.2.2 p1 p2).bind fun yt90 => (charabancref19_Same_38.f K yt49.1 yt49.2.1 yt49.2.2.1 yt49.2.2.2 yt90.1 yt90.2.1 yt90.2.2.1 yt90.2.2.2).bind fun t110 => cond t110 ((banks_Select_41.f K p0_0 p0_1 p0_2 p0_3 p2).bind fun yt121 => (charabanclaw19_plain_33.f K yt121.1 yt121.2.1 yt121.2.2.1 yt121.2.2.2).bind fun yt141 => (charabanclaw19_plain_33.f K p0_0 p0_1 p0_2 p0_3).bind fun yt161 => (charabancref19_Select_42.f K yt161.1 yt161.2.1 yt161.2.2.1 yt161.2.2.2 p2).bind fun yt182 => (charabancref19_Same_38.f K yt141.1 yt141.2.1 yt141.2.2.1 yt141.2.2.2 yt182.1 yt182.2.1 yt182.2.2.1 yt182.2.2.2).bind fun t202 => some t202) (some false)))
set_option maxRecDepth 100000 in
theorem charabanclaw19_BanksWrite_7_ok (K : Nat) (M0 : Nat → Prop) (w0 : World) (pA0_0 : Option Addr) (pc0_0 : Nat) (pA0_3 : Option Addr) (pc0_3 : Nat) (p0_0 : List Int) (p0_1 : Int) (p0_2 : Int) (p0_3 : List (Int × Int)) (p1 : Int) (p2 : Int) (ho : ∀ b, M0 b → b < w0.heap.size) (hs0_0 : Sl (Rp.int .u8) w0 M0 (.slice pA0_0 p0_0.length pc0_0) p0_0) (hs0_3 : Sl (Rp.pair (Rp.int .i64) (Rp.int .u8)) w0 M0 (.slice pA0_3 p0_3.length pc0_3) p0_3) {r : Bool} (h : charabanclaw19_BanksWrite_7.f K p0_0 p0_1 p0_2 p0_3 p1 p2 = some r) :
    Calls Try.prog 7 #[.agg #[.slice pA0_0 p0_0.length pc0_0, .int .i64 p0_1, .int .i64 p0_2, .slice pA0_3 p0_3.length pc0_3], .int .u16 p1, .int .u8 p2] w0 (charabanclaw19_BanksWrite_7.post M0 w0 r) := by
  unfold charabanclaw19_BanksWrite_7.f at h
  have h0 : Holds M0 w0 w0 [] := Holds.start ho
  have h00_0 := h0.addSl (Rp.int .u8) (.slice pA0_0 p0_0.length pc0_0) p0_0 (hs0_0.mono (fun _ _ hm => hm.elim id (fun hm => absurd hm (by simp [mines, sl]))))
  have h00_3 := h00_0.addSl (Rp.pair (Rp.int .i64) (Rp.int .u8)) (.slice pA0_3 p0_3.length pc0_3) p0_3 (hs0_3.mono (fun _ _ hm => hm.elim id (fun hm => absurd hm (by simp [mines, sl]))))
  have h0 : Holds M0 w0 w0 [sl (Rp.int .u8) (.slice pA0_0 p0_0.length pc0_0) p0_0, sl (Rp.pair (Rp.int .i64) (Rp.int .u8)) (.slice pA0_3 p0_3.length pc0_3) p0_3] := h00_3
  refine calls_of F7 rfl [.agg #[.slice pA0_0 p0_0.length pc0_0, .int .i64 p0_1, .int .i64 p0_2, .slice pA0_3 p0_3.length pc0_3], .int .u16 p1, .int .u8 p2] (by kernel_rfl) ?_
  refine RunsI.go 1 [.c 1, .c 2] (by kernel_rfl) ?_
  refine RunsI.region (by kernel_rfl) ?_
  refine RegI.op (by kernel_rfl) (OpE.box 3 53 [.slice pA0_0 p0_0.length pc0_0, .int .i64 p0_1, .int .i64 p0_2, .slice pA0_3 p0_3.length pc0_3] h0 (by kernel_rfl) (by kernel_rfl) ?_)
  intro w1 b2 h3 hb4
  refine RegI.pure 1 [1, 2, 3] [(1, .int .u16 p1), (2, .int .u8 p2), (3, .pointer (some ⟨b2, 0, none⟩))] (by kernel_rfl) ?_
  refine RegI.done (by kernel_rfl) ?_
  refine RunsI.go 1 [.c 3, .c 4] (by kernel_rfl) ?_
  refine RunsI.region (by kernel_rfl) ?_
  obtain ⟨t9, hg8, h⟩ := of_bind h
  refine RegI.op (by kernel_rfl) (OpE.call 9 (by kernel_rfl) 29 #[] (by kernel_rfl) ((charabanclaw19_awake_29_ok K _ w1  h3.old' hg8).mono ?_))
  rintro _ w5 ⟨rfl, hb6⟩
  refine ⟨_, rfl, ?_⟩
  have h7 := h3.call hb6
  refine RegI.pure 1 [1, 2, 3, 7] [(1, .int .u16 p1), (2, .int .u8 p2), (3, .pointer (some ⟨b2, 0, none⟩)), (7, .bool t9)] (by kernel_rfl) ?_
  refine RegI.done (by kernel_rfl) ?_
  refine RunsI.go 2 [.c 6, .c 7, .c 12] (by kernel_rfl) ?_
  refine RunsI.region (by kernel_rfl) ?_
  refine RegI.pure 2 [1, 2, 3, 11] [(1, .int .u16 p1), (2, .int .u8 p2), (3, .pointer (some ⟨b2, 0, none⟩)), (11, .bool (!t9))] (by kernel_rfl) ?_
  refine RegI.done (by kernel_rfl) ?_
  rcases of_cond h with ⟨hc10, h⟩ | ⟨hc10, h⟩
  · skip
    refine RunsI.fix 11 true hc10 (by kernel_rfl) (by kernel_rfl) ?_
    refine RunsI.cond true 8 (by kernel_rfl) ?_
    refine RunsI.go 1 [.c 9, .c 10, .c 12] (by kernel_rfl) ?_
    refine RunsI.region (by kernel_rfl) ?_
    refine RegI.pure 1 [6] [(6, .bool false)] (by kernel_rfl) ?_
    refine RegI.done (by kernel_rfl) ?_
    refine RunsI.ret (.bool false) (by kernel_rfl) (by kernel_rfl) ?_
    obtain rfl := Option.some.inj h
    exact ⟨rfl, h7.below⟩
  · skip
    refine RunsI.fix 11 false hc10 (by kernel_rfl) (by kernel_rfl) ?_
    refine RunsI.cond false 11 (by kernel_rfl) ?_
    refine RunsI.go 1 [.c 12] (by kernel_rfl) ?_
    refine RunsI.go 1 [.c 13, .c 14] (by kernel_rfl) ?_
    refine RunsI.region (by kernel_rfl) ?_
    refine RegI.op (by kernel_rfl) (OpE.loadBox 12 2 53 b2 0 (.agg #[.slice pA0_0 p0_0.length pc0_0, .int .i64 p0_1, .int .i64 p0_2, .slice pA0_3 p0_3.length pc0_3]) h7 (by kernel_rfl) (by kernel_rfl) rfl (by kernel_rfl) ?_)
    obtain ⟨t15, hg14, h⟩ := of_bind h
    refine RegI.op (by kernel_rfl) (OpE.call 13 (by kernel_rfl) 30 #[.agg #[.slice pA0_0 p0_0.length pc0_0, .int .i64 p0_1, .int .i64 p0_2, .slice pA0_3 p0_3.length pc0_3]] (by kernel_rfl) ((charabanclaw19_few_30_ok K _ w5  pA0_0 pc0_0 pA0_3 pc0_3 p0_0 p0_1 p0_2 p0_3 h7.old' (h7.get 0 rfl) (h7.get 1 rfl) hg14).mono ?_))
    rintro _ w11 ⟨rfl, hb12⟩
    refine ⟨_, rfl, ?_⟩
    have h13 := h7.call hb12
    refine RegI.pure 1 [1, 2, 3, 8] [(1, .int .u16 p1), (2, .int .u8 p2), (3, .pointer (some ⟨b2, 0, none⟩)), (8, .bool t15)] (by kernel_rfl) ?_
    refine RegI.done (by kernel_rfl) ?_
    refine RunsI.go 2 [.c 16, .c 17, .c 22] (by kernel_rfl) ?_
    refine RunsI.region (by kernel_rfl) ?_
    refine RegI.pure 2 [1, 2, 3, 15] [(1, .int .u16 p1), (2, .int .u8 p2), (3, .pointer (some ⟨b2, 0, none⟩)), (15, .bool (!t15))] (by kernel_rfl) ?_
    refine RegI.done (by kernel_rfl) ?_
    rcases of_cond h with ⟨hc16, h⟩ | ⟨hc16, h⟩
    · skip
      refine RunsI.fix 15 true hc16 (by kernel_rfl) (by kernel_rfl) ?_
      refine RunsI.cond true 18 (by kernel_rfl) ?_
      refine RunsI.go 1 [.c 19, .c 20, .c 22] (by kernel_rfl) ?_
      refine RunsI.region (by kernel_rfl) ?_
      refine RegI.pure 1 [6] [(6, .bool true)] (by kernel_rfl) ?_
      refine RegI.done (by kernel_rfl) ?_
      refine RunsI.ret (.bool true) (by kernel_rfl) (by kernel_rfl) ?_
      obtain rfl := Option.some.inj h
      exact ⟨rfl, h13.below⟩
    · skip
      refine RunsI.fix 15 false hc16 (by kernel_rfl) (by kernel_rfl) ?_
      refine RunsI.cond false 21 (by kernel_rfl) ?_
      refine RunsI.go 1 [.c 22] (by kernel_rfl) ?_
      refine RunsI.go 1 [.c 23, .c 24] (by kernel_rfl) ?_
      refine RunsI.any 23 (by kernel_rfl) (by kernel_rfl) (by kernel_rfl) (Kp ([] : List Nat) (World.drew w11)) ?_
      have h18 := h13.drew
      generalize World.drew w11 = w17 at h18 ⊢
      have hS19 := Kp.refl ([] : List Nat) w17
      refine AnyE.loadBox 0 16 2 53 b2 0 (.agg #[.slice pA0_0 p0_0.length pc0_0, .int .i64 p0_1, .int .i64 p0_2, .slice pA0_3 p0_3.length pc0_3]) [] h18 rfl (by kernel_rfl) hS19 rfl rfl (by kernel_rfl) (by kernel_rfl) ?_
      refine AnyE.pure 1 17 (.int .u16 p1) (by kernel_rfl) hS19 (fun _ => by kernel_rfl) ?_
      refine AnyE.pure 2 18 (.int .u8 p2) (by kernel_rfl) hS19 (fun _ => by kernel_rfl) ?_
      refine AnyE.loadBox 5 21 2 53 b2 0 (.agg #[.slice pA0_0 p0_0.length pc0_0, .int .i64 p0_1, .int .i64 p0_2, .slice pA0_3 p0_3.length pc0_3]) [] h18 rfl (by kernel_rfl) hS19 rfl rfl (by kernel_rfl) (by kernel_rfl) ?_
      refine AnyE.pure 7 23 (.int .u16 p1) (by kernel_rfl) hS19 (fun _ => by kernel_rfl) ?_
      refine AnyE.pure 8 24 (.int .u8 p2) (by kernel_rfl) hS19 (fun _ => by kernel_rfl) ?_
      refine AnyE.one 3 (by kernel_rfl) (fun w21 hu22 => ?_)
      have h23 := h18.call hu22
      have hS24 := hS19.up hu22
      obtain ⟨⟨t29, t33, t34, t35⟩, hg28, h⟩ := of_bind h
      dsimp only at h
      refine OpE.call 19 (by kernel_rfl) 39 #[.agg #[.slice pA0_0 p0_0.length pc0_0, .int .i64 p0_1, .int .i64 p0_2, .slice pA0_3 p0_3.length pc0_3], .int .u16 p1, .int .u8 p2] (by kernel_rfl) ((banks_Write_39_ok K _ w21  pA0_0 pc0_0 pA0_3 pc0_3 p0_0 p0_1 p0_2 p0_3 p1 p2 h23.old' (h23.get 0 rfl) (h23.get 1 rfl) hg28).mono ?_)
      rintro _ w25 ⟨A30, c31, A36, c37, rfl, hr39⟩
      refine ⟨_, rfl, ?_⟩
      have hb26 := hr39.below
      have h27 := h23.join hr39
      have hS40 := hS24.up hb26
      refine ⟨hS40, ?_⟩
      refine AnyE.one 4 (by kernel_rfl) (fun w41 hu42 => ?_)
      have h43 := h27.call hu42
      have hS44 := hS40.up hu42
      obtain ⟨⟨t49, t53, t54, t55⟩, hg48, h⟩ := of_bind h
      dsimp only at h
      refine OpE.call 20 (by kernel_rfl) 33 #[.agg #[.slice A30 t29.length c31, .int .i64 t33, .int .i64 t34, .slice A36 t35.length c37]] (by kernel_rfl) ((charabanclaw19_plain_33_ok K _ w41  A30 c31 A36 c37 t29 t33 t34 t35 h43.old' (h43.get 3 rfl) (h43.get 4 rfl) hg48).mono ?_)
      rintro _ w45 ⟨A50, c51, A56, c57, rfl, hr59⟩
      refine ⟨_, rfl, ?_⟩
      have hb46 := hr59.below
      have h47 := h43.join hr59
      have hS60 := hS44.up hb46
      refine ⟨hS60, ?_⟩
      refine AnyE.one 6 (by kernel_rfl) (fun w61 hu62 => ?_)
      have h63 := h47.call hu62
      have hS64 := hS60.up hu62
      obtain ⟨⟨t69, t73, t74, t75⟩, hg68, h⟩ := of_bind h
      dsimp only at h
      refine OpE.call 22 (by kernel_rfl) 33 #[.agg #[.slice pA0_0 p0_0.length pc0_0, .int .i64 p0_1, .int .i64 p0_2, .slice pA0_3 p0_3.length pc0_3]] (by kernel_rfl) ((charabanclaw19_plain_33_ok K _ w61  pA0_0 pc0_0 pA0_3 pc0_3 p0_0 p0_1 p0_2 p0_3 h63.old' (h63.get 0 rfl) (h63.get 1 rfl) hg68).mono ?_)
      rintro _ w65 ⟨A70, c71, A76, c77, rfl, hr79⟩
      refine ⟨_, rfl, ?_⟩
      have hb66 := hr79.below
      have h67 := h63.join hr79
      have hS80 := hS64.up hb66
      refine ⟨hS80, ?_⟩
      refine AnyE.one 9 (by kernel_rfl) (fun w81 hu82 => ?_)
      have h83 := h67.call hu82
      have hS84 := hS80.up hu82
      obtain ⟨⟨t90, t94, t95, t96⟩, hg89, h⟩ := of_bind h
      dsimp only at h
      have h85 := h83.release 8 rfl
      refine OpE.call 25 (by kernel_rfl) 40 #[.agg #[.slice A70 t69.length c71, .int .i64 t73, .int .i64 t74, .slice A76 t75.length c77], .int .u16 p1, .int .u8 p2] (by kernel_rfl) ((charabancref19_Write_40_ok K _ w81  A70 c71 A76 c77 t69 t73 t74 t75 p1 p2 h85.old' (h85.get 7 rfl) (h85.get 8 rfl) hg89).mono ?_)
      rintro _ w86 ⟨A91, c92, A97, c98, rfl, hr100⟩
      refine ⟨_, rfl, ?_⟩
      have hb87 := hr100.below
      have h88 := h85.join hr100
      have hS101 := hS84.up hb87
      refine ⟨hS101, ?_⟩
      refine AnyE.one 10 (by kernel_rfl) (fun w102 hu103 => ?_)
      have h104 := h88.call hu103
      have hS105 := hS101.up hu103
      obtain ⟨t110, hg109, h⟩ := of_bind h
      refine OpE.call 26 (by kernel_rfl) 38 #[.agg #[.slice A50 t49.length c51, .int .i64 t53, .int .i64 t54, .slice A56 t55.length c57], .agg #[.slice A91 t90.length c92, .int .i64 t94, .int .i64 t95, .slice A97 t96.length c98]] (by kernel_rfl) ((charabancref19_Same_38_ok K (fun _ => False) w102  A50 c51 A56 c57 A91 c92 A97 c98 t49 t53 t54 t55 t90 t94 t95 t96 (fun _ hf => hf.elim) (h104.slAny 5 rfl) (h104.ownSl 6 rfl) (h104.slAny 9 rfl) (h104.slAny 10 rfl) hg109).mono ?_)
      rintro _ w106 ⟨rfl, hb107⟩
      refine ⟨_, rfl, ?_⟩
      have h108 := h104.call hb107
      have hS111 := hS105.up hb107
      refine ⟨hS111, ?_⟩
      refine AnyE.pure 11 27 (.bool t110) (by kernel_rfl) hS111 (fun _ => by kernel_rfl) ?_
      rcases of_cond h with ⟨hc112, h⟩ | ⟨hc112, h⟩
      · skip
        refine AnyE.fix 27 true hc112 (by kernel_rfl) (by kernel_rfl) ?_
        refine AnyE.loadBox 12 28 2 53 b2 0 (.agg #[.slice pA0_0 p0_0.length pc0_0, .int .i64 p0_1, .int .i64 p0_2, .slice pA0_3 p0_3.length pc0_3]) [] h18 rfl (by kernel_rfl) hS111 rfl rfl (by kernel_rfl) (by kernel_rfl) ?_
        refine AnyE.pure 13 29 (.int .u8 p2) (by kernel_rfl) hS111 (fun _ => by kernel_rfl) ?_
        refine AnyE.loadBox 16 32 2 53 b2 0 (.agg #[.slice pA0_0 p0_0.length pc0_0, .int .i64 p0_1, .int .i64 p0_2, .slice pA0_3 p0_3.length pc0_3]) [] h18 rfl (by kernel_rfl) hS111 rfl rfl (by kernel_rfl) (by kernel_rfl) ?_
        refine AnyE.pure 18 34 (.int .u8 p2) (by kernel_rfl) hS111 (fun _ => by kernel_rfl) ?_
        refine AnyE.one 14 (by kernel_rfl) (fun w113 hu114 => ?_)
        have h115 := h108.call hu114
        have hS116 := hS111.up hu114
        obtain ⟨⟨t121, t125, t126, t127⟩, hg120, h⟩ := of_bind h
        dsimp only at h
        refine OpE.call 30 (by kernel_rfl) 41 #[.agg #[.slice pA0_0 p0_0.length pc0_0, .int .i64 p0_1, .int .i64 p0_2, .slice pA0_3 p0_3.length pc0_3], .int .u8 p2] (by kernel_rfl) ((banks_Select_41_ok K _ w113  pA0_0 pc0_0 pA0_3 pc0_3 p0_0 p0_1 p0_2 p0_3 p2 h115.old' (h115.get 0 rfl) (h115.get 1 rfl) hg120).mono ?_)
        rintro _ w117 ⟨A122, c123, A128, c129, rfl, hr131⟩
        refine ⟨_, rfl, ?_⟩
        have hb118 := hr131.below
        have h119 := h115.join hr131
        have hS132 := hS116.up hb118
        refine ⟨hS132, ?_⟩
        refine AnyE.one 15 (by kernel_rfl) (fun w133 hu134 => ?_)
        have h135 := h119.call hu134
        have hS136 := hS132.up hu134
        obtain ⟨⟨t141, t145, t146, t147⟩, hg140, h⟩ := of_bind h
        dsimp only at h
        refine OpE.call 31 (by kernel_rfl) 33 #[.agg #[.slice A122 t121.length c123, .int .i64 t125, .int .i64 t126, .slice A128 t127.length c129]] (by kernel_rfl) ((charabanclaw19_plain_33_ok K _ w133  A122 c123 A128 c129 t121 t125 t126 t127 h135.old' (h135.get 11 rfl) (h135.get 12 rfl) hg140).mono ?_)
        rintro _ w137 ⟨A142, c143, A148, c149, rfl, hr151⟩
        refine ⟨_, rfl, ?_⟩
        have hb138 := hr151.below
        have h139 := h135.join hr151
        have hS152 := hS136.up hb138
        refine ⟨hS152, ?_⟩
        refine AnyE.one 17 (by kernel_rfl) (fun w153 hu154 => ?_)
        have h155 := h139.call hu154
        have hS156 := hS152.up hu154
        obtain ⟨⟨t161, t165, t166, t167⟩, hg160, h⟩ := of_bind h
        dsimp only at h
        refine OpE.call 33 (by kernel_rfl) 33 #[.agg #[.slice pA0_0 p0_0.length pc0_0, .int .i64 p0_1, .int .i64 p0_2, .slice pA0_3 p0_3.length pc0_3]] (by kernel_rfl) ((charabanclaw19_plain_33_ok K _ w153  pA0_0 pc0_0 pA0_3 pc0_3 p0_0 p0_1 p0_2 p0_3 h155.old' (h155.get 0 rfl) (h155.get 1 rfl) hg160).mono ?_)
        rintro _ w157 ⟨A162, c163, A168, c169, rfl, hr171⟩
        refine ⟨_, rfl, ?_⟩
        have hb158 := hr171.below
        have h159 := h155.join hr171
        have hS172 := hS156.up hb158
        refine ⟨hS172, ?_⟩
        refine AnyE.one 19 (by kernel_rfl) (fun w173 hu174 => ?_)
        have h175 := h159.call hu174
        have hS176 := hS172.up hu174
        obtain ⟨⟨t182, t186, t187, t188⟩, hg181, h⟩ := of_bind h
        dsimp only at h
        have h177 := h175.release 16 rfl
        refine OpE.call 35 (by kernel_rfl) 42 #[.agg #[.slice A162 t161.length c163, .int .i64 t165, .int .i64 t166, .slice A168 t167.length c169], .int .u8 p2] (by kernel_rfl) ((charabancref19_Select_42_ok K _ w173  A162 c163 A168 c169 t161 t165 t166 t167 p2 h177.old' (h177.get 15 rfl) (h177.get 16 rfl) hg181).mono ?_)
        rintro _ w178 ⟨A183, c184, A189, c190, rfl, hr192⟩
        refine ⟨_, rfl, ?_⟩
        have hb179 := hr192.below
        have h180 := h177.join hr192
        have hS193 := hS176.up hb179
        refine ⟨hS193, ?_⟩
        refine AnyE.one 20 (by kernel_rfl) (fun w194 hu195 => ?_)
        have h196 := h180.call hu195
        have hS197 := hS193.up hu195
        obtain ⟨t202, hg201, h⟩ := of_bind h
        refine OpE.call 36 (by kernel_rfl) 38 #[.agg #[.slice A142 t141.length c143, .int .i64 t145, .int .i64 t146, .slice A148 t147.length c149], .agg #[.slice A183 t182.length c184, .int .i64 t186, .int .i64 t187, .slice A189 t188.length c190]] (by kernel_rfl) ((charabancref19_Same_38_ok K (fun _ => False) w194  A142 c143 A148 c149 A183 c184 A189 c190 t141 t145 t146 t147 t182 t186 t187 t188 (fun _ hf => hf.elim) (h196.slAny 13 rfl) (h196.ownSl 14 rfl) (h196.slAny 17 rfl) (h196.slAny 18 rfl) hg201).mono ?_)
        rintro _ w198 ⟨rfl, hb199⟩
        refine ⟨_, rfl, ?_⟩
        have h200 := h196.call hb199
        have hS203 := hS197.up hb199
        refine ⟨hS203, ?_⟩
        refine AnyE.pure 21 37 (.bool t202) (by kernel_rfl) hS203 (fun _ => by kernel_rfl) ?_
        refine AnyE.pure 22 6 (.bool t202) (by kernel_rfl) hS203 (fun _ => by kernel_rfl) ?_
        refine AnyE.done (by kernel_rfl) (fun w204 hu205 => ?_)
        have h206 := h200.call hu205
        refine RunsI.only [6] [(6, .bool t202)] (by kernel_rfl) (by kernel_rfl) ?_
        refine RunsI.ret (.bool t202) (by kernel_rfl) (by kernel_rfl) ?_
        obtain rfl := Option.some.inj h
        exact ⟨rfl, h206.below⟩
      · skip
        refine AnyE.fix 27 false hc112 (by kernel_rfl) (by kernel_rfl) ?_
        refine AnyE.no 12 28 (by kernel_rfl) hS111 ?_
        refine AnyE.no 13 29 (by kernel_rfl) hS111 ?_
        refine AnyE.no 14 30 (by kernel_rfl) hS111 ?_
        refine AnyE.no 15 31 (by kernel_rfl) hS111 ?_
        refine AnyE.no 16 32 (by kernel_rfl) hS111 ?_
        refine AnyE.no 17 33 (by kernel_rfl) hS111 ?_
        refine AnyE.no 18 34 (by kernel_rfl) hS111 ?_
        refine AnyE.no 19 35 (by kernel_rfl) hS111 ?_
        refine AnyE.no 20 36 (by kernel_rfl) hS111 ?_
        refine AnyE.pure 21 37 (.bool false) (by kernel_rfl) hS111 (fun _ => by kernel_rfl) ?_
        refine AnyE.pure 22 6 (.bool false) (by kernel_rfl) hS111 (fun _ => by kernel_rfl) ?_
        refine AnyE.done (by kernel_rfl) (fun w207 hu208 => ?_)
        have h209 := h108.call hu208
        refine RunsI.only [6] [(6, .bool false)] (by kernel_rfl) (by kernel_rfl) ?_
        refine RunsI.ret (.bool false) (by kernel_rfl) (by kernel_rfl) ?_
        obtain rfl := Option.some.inj h
        exact ⟨rfl, h209.below⟩
end
end Go.Proofs.Ytngcadmhnbpgjaa.Banks
