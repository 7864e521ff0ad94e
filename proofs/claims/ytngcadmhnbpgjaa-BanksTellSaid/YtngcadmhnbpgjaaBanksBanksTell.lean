/- The statement's function BanksTell as a plain Lean function; written by wip/eng.py. -/
import Derived.Test.YtngcadmhnbpgjaaBanks2
set_option linter.unusedVariables false
set_option linter.unusedSimpArgs false
set_option maxHeartbeats 4000000
namespace Go.Proofs.Ytngcadmhnbpgjaa.Banks
open Go.RowKit Go.Eng
noncomputable def B6 : Code := (Try.f6.body).getD .skip
noncomputable def F6 : Fun Try.prog := ⟨6, Try.f6, B6, 57, Try.func6, by kernel_rfl, by kernel_rfl⟩

/-! ### charabanc/charabanclaw19.BanksTell (function 6) -/
section
def charabanclaw19_BanksTell_6.post (M0 : Nat → Prop) (w0 : World) (r : Bool) : Ending → World → Prop := fun e w => e = .returned (.bool r) ∧ Below w0.heap.size w0 w
def charabanclaw19_BanksTell_6.f (K : Nat) (p0_0 : List Int) (p0_1 : Int) (p0_2 : Int) (p0_3 : List (Int × Int)) (p1 : Int) : Option Bool := (charabanclaw19_awake_29.f K).bind fun t9 => cond (!t9) (some false) ((charabanclaw19_few_30.f K p0_0 p0_1 p0_2 p0_3).bind fun t15 => cond (!t15) (some true) ((banks_Where_31.f K p0_0 p0_1 p0_2 p0_3 p1).bind fun yt21 => (charabanclaw19_plain_33.f K p0_0 p0_1 p0_2 p0_3).bind fun yt27 => (charabancref19_Where_32.f K yt27.1 yt27.2.1 yt27.2.2.1 yt27.2.2.2 p1).bind fun yt42 => cond (yt21.1 == yt42.1) (cond (yt21.2 == yt42.2) ((banks_Read_34.f K p0_0 p0_1 p0_2 p0_3 p1).bind fun t51 => (charabanclaw19_plain_33.f K p0_0 p0_1 p0_2 p0_3).bind fun yt60 => (charabancref19_Read_35.f K yt60.1 yt60.2.1 yt60.2.2.1 yt60.2.2.2 p1).bind fun t80 => cond (t51 == t80) ((banks_Check_36.f K p0_0 p0_1 p0_2 p0_3).bind fun t84 => (charabanclaw19_plain_33.f K p0_0 p0_1 p0_2 p0_3).bind fun yt93 => (charabancref19_Check_37.f K yt93.1 yt93.2.1 yt93.2.2.1 yt93.2.2.2).bind fun t113 => some (t84 == t113)) (some false)) (some false)) (some false)))
set_option maxRecDepth 100000 in
theorem charabanclaw19_BanksTell_6_ok (K : Nat) (M0 : Nat → Prop) (w0 : World) (pA0_0 : Option Addr) (pc0_0 : Nat) (pA0_3 : Option Addr) (pc0_3 : Nat) (p0_0 : List Int) (p0_1 : Int) (p0_2 : Int) (p0_3 : List (Int × Int)) (p1 : Int) (ho : ∀ b, M0 b → b < w0.heap.size) (hs0_0 : Sl (Rp.int .u8) w0 M0 (.slice pA0_0 p0_0.length pc0_0) p0_0) (hs0_3 : Sl (Rp.pair (Rp.int .i64) (Rp.int .u8)) w0 M0 (.slice pA0_3 p0_3.length pc0_3) p0_3) {r : Bool} (h : charabanclaw19_BanksTell_6.f K p0_0 p0_1 p0_2 p0_3 p1 = some r) :
    Calls Try.prog 6 #[.agg #[.slice pA0_0 p0_0.length pc0_0, .int .i64 p0_1, .int .i64 p0_2, .slice pA0_3 p0_3.length pc0_3], .int .u16 p1] w0 (charabanclaw19_BanksTell_6.post M0 w0 r) := by
  unfold charabanclaw19_BanksTell_6.f at h
  have h0 : Holds M0 w0 w0 [] := Holds.start ho
  have h00_0 := h0.addSl (Rp.int .u8) (.slice pA0_0 p0_0.length pc0_0) p0_0 (hs0_0.mono (fun _ _ hm => hm.elim id (fun hm => absurd hm (by simp [mines, sl]))))
  have h00_3 := h00_0.addSl (Rp.pair (Rp.int .i64) (Rp.int .u8)) (.slice pA0_3 p0_3.length pc0_3) p0_3 (hs0_3.mono (fun _ _ hm => hm.elim id (fun hm => absurd hm (by simp [mines, sl]))))
  have h0 : Holds M0 w0 w0 [sl (Rp.int .u8) (.slice pA0_0 p0_0.length pc0_0) p0_0, sl (Rp.pair (Rp.int .i64) (Rp.int .u8)) (.slice pA0_3 p0_3.length pc0_3) p0_3] := h00_3
  refine calls_of F6 rfl [.agg #[.slice pA0_0 p0_0.length pc0_0, .int .i64 p0_1, .int .i64 p0_2, .slice pA0_3 p0_3.length pc0_3], .int .u16 p1] (by kernel_rfl) ?_
  refine RunsI.go 1 [.c 1, .c 2] (by kernel_rfl) ?_
  refine RunsI.region (by kernel_rfl) ?_
  refine RegI.op (by kernel_rfl) (OpE.box 2 53 [.slice pA0_0 p0_0.length pc0_0, .int .i64 p0_1, .int .i64 p0_2, .slice pA0_3 p0_3.length pc0_3] h0 (by kernel_rfl) (by kernel_rfl) ?_)
  intro w1 b2 h3 hb4
  refine RegI.pure 1 [1, 2] [(1, .int .u16 p1), (2, .pointer (some ⟨b2, 0, none⟩))] (by kernel_rfl) ?_
  refine RegI.done (by kernel_rfl) ?_
  refine RunsI.go 1 [.c 3, .c 4] (by kernel_rfl) ?_
  refine RunsI.region (by kernel_rfl) ?_
  obtain ⟨t9, hg8, h⟩ := of_bind h
  refine RegI.op (by kernel_rfl) (OpE.call 11 (by kernel_rfl) 29 #[] (by kernel_rfl) ((charabanclaw19_awake_29_ok K _ w1  h3.old' hg8).mono ?_))
  rintro _ w5 ⟨rfl, hb6⟩
  refine ⟨_, rfl, ?_⟩
  have h7 := h3.call hb6
  refine RegI.pure 1 [1, 2, 5] [(1, .int .u16 p1), (2, .pointer (some ⟨b2, 0, none⟩)), (5, .bool t9)] (by kernel_rfl) ?_
  refine RegI.done (by kernel_rfl) ?_
  refine RunsI.go 2 [.c 6, .c 7, .c 12] (by kernel_rfl) ?_
  refine RunsI.region (by kernel_rfl) ?_
  refine RegI.pure 2 [1, 2, 13] [(1, .int .u16 p1), (2, .pointer (some ⟨b2, 0, none⟩)), (13, .bool (!t9))] (by kernel_rfl) ?_
  refine RegI.done (by kernel_rfl) ?_
  rcases of_cond h with ⟨hc10, h⟩ | ⟨hc10, h⟩
  · skip
    refine RunsI.fix 13 true hc10 (by kernel_rfl) (by kernel_rfl) ?_
    refine RunsI.cond true 8 (by kernel_rfl) ?_
    refine RunsI.go 1 [.c 9, .c 10, .c 12] (by kernel_rfl) ?_
    refine RunsI.region (by kernel_rfl) ?_
    refine RegI.pure 1 [4] [(4, .bool false)] (by kernel_rfl) ?_
    refine RegI.done (by kernel_rfl) ?_
    refine RunsI.ret (.bool false) (by kernel_rfl) (by kernel_rfl) ?_
    obtain rfl := Option.some.inj h
    exact ⟨rfl, h7.below⟩
  · skip
    refine RunsI.fix 13 false hc10 (by kernel_rfl) (by kernel_rfl) ?_
    refine RunsI.cond false 11 (by kernel_rfl) ?_
    refine RunsI.go 1 [.c 12] (by kernel_rfl) ?_
    refine RunsI.go 1 [.c 13, .c 14] (by kernel_rfl) ?_
    refine RunsI.region (by kernel_rfl) ?_
    refine RegI.op (by kernel_rfl) (OpE.loadBox 14 2 53 b2 0 (.agg #[.slice pA0_0 p0_0.length pc0_0, .int .i64 p0_1, .int .i64 p0_2, .slice pA0_3 p0_3.length pc0_3]) h7 (by kernel_rfl) (by kernel_rfl) rfl (by kernel_rfl) ?_)
    obtain ⟨t15, hg14, h⟩ := of_bind h
    refine RegI.op (by kernel_rfl) (OpE.call 15 (by kernel_rfl) 30 #[.agg #[.slice pA0_0 p0_0.length pc0_0, .int .i64 p0_1, .int .i64 p0_2, .slice pA0_3 p0_3.length pc0_3]] (by kernel_rfl) ((charabanclaw19_few_30_ok K _ w5  pA0_0 pc0_0 pA0_3 pc0_3 p0_0 p0_1 p0_2 p0_3 h7.old' (h7.get 0 rfl) (h7.get 1 rfl) hg14).mono ?_))
    rintro _ w11 ⟨rfl, hb12⟩
    refine ⟨_, rfl, ?_⟩
    have h13 := h7.call hb12
    refine RegI.pure 1 [1, 2, 6] [(1, .int .u16 p1), (2, .pointer (some ⟨b2, 0, none⟩)), (6, .bool t15)] (by kernel_rfl) ?_
    refine RegI.done (by kernel_rfl) ?_
    refine RunsI.go 2 [.c 16, .c 17, .c 22] (by kernel_rfl) ?_
    refine RunsI.region (by kernel_rfl) ?_
    refine RegI.pure 2 [1, 2, 17] [(1, .int .u16 p1), (2, .pointer (some ⟨b2, 0, none⟩)), (17, .bool (!t15))] (by kernel_rfl) ?_
    refine RegI.done (by kernel_rfl) ?_
    rcases of_cond h with ⟨hc16, h⟩ | ⟨hc16, h⟩
    · skip
      refine RunsI.fix 17 true hc16 (by kernel_rfl) (by kernel_rfl) ?_
      refine RunsI.cond true 18 (by kernel_rfl) ?_
      refine RunsI.go 1 [.c 19, .c 20, .c 22] (by kernel_rfl) ?_
      refine RunsI.region (by kernel_rfl) ?_
      refine RegI.pure 1 [4] [(4, .bool true)] (by kernel_rfl) ?_
      refine RegI.done (by kernel_rfl) ?_
      refine RunsI.ret (.bool true) (by kernel_rfl) (by kernel_rfl) ?_
      obtain rfl := Option.some.inj h
      exact ⟨rfl, h13.below⟩
    · skip
      refine RunsI.fix 17 false hc16 (by kernel_rfl) (by kernel_rfl) ?_
      refine RunsI.cond false 21 (by kernel_rfl) ?_
      refine RunsI.go 1 [.c 22] (by kernel_rfl) ?_
      refine RunsI.go 1 [.c 23, .c 24] (by kernel_rfl) ?_
      refine RunsI.region (by kernel_rfl) ?_
      refine RegI.op (by kernel_rfl) (OpE.loadBox 19 2 53 b2 0 (.agg #[.slice pA0_0 p0_0.length pc0_0, .int .i64 p0_1, .int .i64 p0_2, .slice pA0_3 p0_3.length pc0_3]) h13 (by kernel_rfl) (by kernel_rfl) rfl (by kernel_rfl) ?_)
      refine RegI.pure 1 [1, 2, 19, 20] [(1, .int .u16 p1), (2, .pointer (some ⟨b2, 0, none⟩)), (19, .agg #[.slice pA0_0 p0_0.length pc0_0, .int .i64 p0_1, .int .i64 p0_2, .slice pA0_3 p0_3.length pc0_3]), (20, .int .u16 p1)] (by kernel_rfl) ?_
      obtain ⟨⟨t21, t22⟩, hg20, h⟩ := of_bind h
      dsimp only at h
      refine RegI.op (by kernel_rfl) (OpE.call 21 (by kernel_rfl) 31 #[.agg #[.slice pA0_0 p0_0.length pc0_0, .int .i64 p0_1, .int .i64 p0_2, .slice pA0_3 p0_3.length pc0_3], .int .u16 p1] (by kernel_rfl) ((banks_Where_31_ok K _ w11  pA0_0 pc0_0 pA0_3 pc0_3 p0_0 p0_1 p0_2 p0_3 p1 h13.old' (h13.get 0 rfl) (h13.get 1 rfl) hg20).mono ?_))
      rintro _ w17 ⟨rfl, hb18⟩
      refine ⟨_, rfl, ?_⟩
      have h19 := h13.call hb18
      refine RegI.pure 5 [1, 2, 7, 8] [(1, .int .u16 p1), (2, .pointer (some ⟨b2, 0, none⟩)), (7, .int .i64 t21), (8, .bool t22)] (by kernel_rfl) ?_
      refine RegI.done (by kernel_rfl) ?_
      refine RunsI.go 1 [.c 25, .c 26] (by kernel_rfl) ?_
      refine RunsI.region (by kernel_rfl) ?_
      refine RegI.op (by kernel_rfl) (OpE.loadBox 25 2 53 b2 0 (.agg #[.slice pA0_0 p0_0.length pc0_0, .int .i64 p0_1, .int .i64 p0_2, .slice pA0_3 p0_3.length pc0_3]) h19 (by kernel_rfl) (by kernel_rfl) rfl (by kernel_rfl) ?_)
      obtain ⟨⟨t27, t31, t32, t33⟩, hg26, h⟩ := of_bind h
      dsimp only at h
      refine RegI.op (by kernel_rfl) (OpE.call 26 (by kernel_rfl) 33 #[.agg #[.slice pA0_0 p0_0.length pc0_0, .int .i64 p0_1, .int .i64 p0_2, .slice pA0_3 p0_3.length pc0_3]] (by kernel_rfl) ((charabanclaw19_plain_33_ok K _ w17  pA0_0 pc0_0 pA0_3 pc0_3 p0_0 p0_1 p0_2 p0_3 h19.old' (h19.get 0 rfl) (h19.get 1 rfl) hg26).mono ?_))
      rintro _ w23 ⟨A28, c29, A34, c35, rfl, hr37⟩
      refine ⟨_, rfl, ?_⟩
      have hb24 := hr37.below
      have h25 := h19.join hr37
      refine RegI.pure 1 [1, 2, 7, 8, 26, 27] [(1, .int .u16 p1), (2, .pointer (some ⟨b2, 0, none⟩)), (7, .int .i64 t21), (8, .bool t22), (26, .agg #[.slice A28 t27.length c29, .int .i64 t31, .int .i64 t32, .slice A34 t33.length c35]), (27, .int .u16 p1)] (by kernel_rfl) ?_
      obtain ⟨⟨t42, t43⟩, hg41, h⟩ := of_bind h
      dsimp only at h
      refine RegI.op (by kernel_rfl) (OpE.call 28 (by kernel_rfl) 32 #[.agg #[.slice A28 t27.length c29, .int .i64 t31, .int .i64 t32, .slice A34 t33.length c35], .int .u16 p1] (by kernel_rfl) ((charabancref19_Where_32_ok K (fun _ => False) w23  A28 c29 A34 c35 t27 t31 t32 t33 p1 (fun _ hf => hf.elim) (h25.slAny 3 rfl) (h25.ownSl 4 rfl) hg41).mono ?_))
      rintro _ w38 ⟨rfl, hb39⟩
      refine ⟨_, rfl, ?_⟩
      have h40 := h25.call hb39
      refine RegI.pure 5 [1, 2, 7, 8, 9, 10] [(1, .int .u16 p1), (2, .pointer (some ⟨b2, 0, none⟩)), (7, .int .i64 t21), (8, .bool t22), (9, .int .i64 t42), (10, .bool t43)] (by kernel_rfl) ?_
      refine RegI.done (by kernel_rfl) ?_
      refine RunsI.go 1 [.c 27, .c 28] (by kernel_rfl) ?_
      refine RunsI.any 27 (by kernel_rfl) (by kernel_rfl) (by kernel_rfl) (Kp ([] : List Nat) (World.drew w38)) ?_
      have h45 := h40.drew
      generalize World.drew w38 = w44 at h45 ⊢
      have hS46 := Kp.refl ([] : List Nat) w44
      refine AnyE.pure 0 31 (.int .i64 t21) (by kernel_rfl) hS46 (fun _ => by kernel_rfl) ?_
      refine AnyE.pure 1 32 (.int .i64 t42) (by kernel_rfl) hS46 (fun _ => by kernel_rfl) ?_
      refine AnyE.pure 2 33 (.bool (t21 == t42)) (by kernel_rfl) hS46 (fun _ => by kernel_rfl) ?_
      refine AnyE.pure 3 34 (.bool (t21 == t42)) (by kernel_rfl) hS46 (fun _ => by kernel_rfl) ?_
      rcases of_cond h with ⟨hc48, h⟩ | ⟨hc48, h⟩
      · skip
        refine AnyE.fix 34 true hc48 (by kernel_rfl) (by kernel_rfl) ?_
        refine AnyE.pure 4 35 (.bool t22) (by kernel_rfl) hS46 (fun _ => by kernel_rfl) ?_
        refine AnyE.pure 5 36 (.bool t43) (by kernel_rfl) hS46 (fun _ => by kernel_rfl) ?_
        refine AnyE.pure 6 37 (.bool (t22 == t43)) (by kernel_rfl) hS46 (fun _ => by kernel_rfl) ?_
        refine AnyE.pure 7 38 (.bool (t22 == t43)) (by kernel_rfl) hS46 (fun _ => by kernel_rfl) ?_
        refine AnyE.pure 8 39 (.bool (t22 == t43)) (by kernel_rfl) hS46 (fun _ => by kernel_rfl) ?_
        rcases of_cond h with ⟨hc49, h⟩ | ⟨hc49, h⟩
        · skip
          refine AnyE.fix 39 true hc49 (by kernel_rfl) (by kernel_rfl) ?_
          refine AnyE.loadBox 9 40 2 53 b2 0 (.agg #[.slice pA0_0 p0_0.length pc0_0, .int .i64 p0_1, .int .i64 p0_2, .slice pA0_3 p0_3.length pc0_3]) [] h45 rfl (by kernel_rfl) hS46 rfl rfl (by kernel_rfl) (by kernel_rfl) ?_
          refine AnyE.pure 10 41 (.int .u16 p1) (by kernel_rfl) hS46 (fun _ => by kernel_rfl) ?_
          obtain ⟨t51, hg50, h⟩ := of_bind h
          refine AnyE.call 11 42 (.int .u8 t51) 34 #[.agg #[.slice pA0_0 p0_0.length pc0_0, .int .i64 p0_1, .int .i64 p0_2, .slice pA0_3 p0_3.length pc0_3], .int .u16 p1] (by kernel_rfl) hS46 (fun _ => by kernel_rfl) (fun w hk => banks_Read_34_ok K (fun _ => False) w pA0_0 pc0_0 pA0_3 pc0_3 p0_0 p0_1 p0_2 p0_3 p1 (fun _ hf => hf.elim) (Sl.mono (h45.atI [] rfl hk 0 rfl rfl) (fun _ _ hf => hf.elim)) (Sl.mono (h45.atI [] rfl hk 1 rfl rfl) (fun _ _ hf => hf.elim)) hg50) ?_
          refine AnyE.loadBox 12 43 2 53 b2 0 (.agg #[.slice pA0_0 p0_0.length pc0_0, .int .i64 p0_1, .int .i64 p0_2, .slice pA0_3 p0_3.length pc0_3]) [] h45 rfl (by kernel_rfl) hS46 rfl rfl (by kernel_rfl) (by kernel_rfl) ?_
          refine AnyE.pure 14 45 (.int .u16 p1) (by kernel_rfl) hS46 (fun _ => by kernel_rfl) ?_
          refine AnyE.one 13 (by kernel_rfl) (fun w52 hu53 => ?_)
          have h54 := h45.call hu53
          have hS55 := hS46.up hu53
          obtain ⟨⟨t60, t64, t65, t66⟩, hg59, h⟩ := of_bind h
          dsimp only at h
          refine OpE.call 44 (by kernel_rfl) 33 #[.agg #[.slice pA0_0 p0_0.length pc0_0, .int .i64 p0_1, .int .i64 p0_2, .slice pA0_3 p0_3.length pc0_3]] (by kernel_rfl) ((charabanclaw19_plain_33_ok K _ w52  pA0_0 pc0_0 pA0_3 pc0_3 p0_0 p0_1 p0_2 p0_3 h54.old' (h54.get 0 rfl) (h54.get 1 rfl) hg59).mono ?_)
          rintro _ w56 ⟨A61, c62, A67, c68, rfl, hr70⟩
          refine ⟨_, rfl, ?_⟩
          have hb57 := hr70.below
          have h58 := h54.join hr70
          have hS71 := hS55.up hb57
          refine ⟨hS71, ?_⟩
          refine AnyE.one 15 (by kernel_rfl) (fun w72 hu73 => ?_)
          have h74 := h58.call hu73
          have hS75 := hS71.up hu73
          obtain ⟨t80, hg79, h⟩ := of_bind h
          refine OpE.call 46 (by kernel_rfl) 35 #[.agg #[.slice A61 t60.length c62, .int .i64 t64, .int .i64 t65, .slice A67 t66.length c68], .int .u16 p1] (by kernel_rfl) ((charabancref19_Read_35_ok K (fun _ => False) w72  A61 c62 A67 c68 t60 t64 t65 t66 p1 (fun _ hf => hf.elim) (h74.slAny 5 rfl) (h74.ownSl 6 rfl) hg79).mono ?_)
          rintro _ w76 ⟨rfl, hb77⟩
          refine ⟨_, rfl, ?_⟩
          have h78 := h74.call hb77
          have hS81 := hS75.up hb77
          refine ⟨hS81, ?_⟩
          refine AnyE.pure 16 47 (.bool (t51 == t80)) (by kernel_rfl) hS81 (fun _ => by kernel_rfl) ?_
          refine AnyE.pure 17 48 (.bool (t51 == t80)) (by kernel_rfl) hS81 (fun _ => by kernel_rfl) ?_
          refine AnyE.pure 18 49 (.bool (t51 == t80)) (by kernel_rfl) hS81 (fun _ => by kernel_rfl) ?_
          rcases of_cond h with ⟨hc82, h⟩ | ⟨hc82, h⟩
          · skip
            refine AnyE.fix 49 true hc82 (by kernel_rfl) (by kernel_rfl) ?_
            refine AnyE.loadBox 19 50 2 53 b2 0 (.agg #[.slice pA0_0 p0_0.length pc0_0, .int .i64 p0_1, .int .i64 p0_2, .slice pA0_3 p0_3.length pc0_3]) [] h45 rfl (by kernel_rfl) hS81 rfl rfl (by kernel_rfl) (by kernel_rfl) ?_
            obtain ⟨t84, hg83, h⟩ := of_bind h
            refine AnyE.call 20 51 (.int .i64 t84) 36 #[.agg #[.slice pA0_0 p0_0.length pc0_0, .int .i64 p0_1, .int .i64 p0_2, .slice pA0_3 p0_3.length pc0_3]] (by kernel_rfl) hS81 (fun _ => by kernel_rfl) (fun w hk => banks_Check_36_ok K (fun _ => False) w pA0_0 pc0_0 pA0_3 pc0_3 p0_0 p0_1 p0_2 p0_3 (fun _ hf => hf.elim) (Sl.mono (h45.atI [] rfl hk 0 rfl rfl) (fun _ _ hf => hf.elim)) (Sl.mono (h45.atI [] rfl hk 1 rfl rfl) (fun _ _ hf => hf.elim)) hg83) ?_
            refine AnyE.loadBox 21 52 2 53 b2 0 (.agg #[.slice pA0_0 p0_0.length pc0_0, .int .i64 p0_1, .int .i64 p0_2, .slice pA0_3 p0_3.length pc0_3]) [] h45 rfl (by kernel_rfl) hS81 rfl rfl (by kernel_rfl) (by kernel_rfl) ?_
            refine AnyE.one 22 (by kernel_rfl) (fun w85 hu86 => ?_)
            have h87 := h78.call hu86
            have hS88 := hS81.up hu86
            obtain ⟨⟨t93, t97, t98, t99⟩, hg92, h⟩ := of_bind h
            dsimp only at h
            refine OpE.call 53 (by kernel_rfl) 33 #[.agg #[.slice pA0_0 p0_0.length pc0_0, .int .i64 p0_1, .int .i64 p0_2, .slice pA0_3 p0_3.length pc0_3]] (by kernel_rfl) ((charabanclaw19_plain_33_ok K _ w85  pA0_0 pc0_0 pA0_3 pc0_3 p0_0 p0_1 p0_2 p0_3 h87.old' (h87.get 0 rfl) (h87.get 1 rfl) hg92).mono ?_)
            rintro _ w89 ⟨A94, c95, A100, c101, rfl, hr103⟩
            refine ⟨_, rfl, ?_⟩
            have hb90 := hr103.below
            have h91 := h87.join hr103
            have hS104 := hS88.up hb90
            refine ⟨hS104, ?_⟩
            refine AnyE.one 23 (by kernel_rfl) (fun w105 hu106 => ?_)
            have h107 := h91.call hu106
            have hS108 := hS104.up hu106
            obtain ⟨t113, hg112, h⟩ := of_bind h
            refine OpE.call 54 (by kernel_rfl) 37 #[.agg #[.slice A94 t93.length c95, .int .i64 t97, .int .i64 t98, .slice A100 t99.length c101]] (by kernel_rfl) ((charabancref19_Check_37_ok K (fun _ => False) w105  A94 c95 A100 c101 t93 t97 t98 t99 (fun _ hf => hf.elim) (h107.slAny 7 rfl) (h107.ownSl 8 rfl) hg112).mono ?_)
            rintro _ w109 ⟨rfl, hb110⟩
            refine ⟨_, rfl, ?_⟩
            have h111 := h107.call hb110
            have hS114 := hS108.up hb110
            refine ⟨hS114, ?_⟩
            refine AnyE.pure 24 55 (.bool (t84 == t113)) (by kernel_rfl) hS114 (fun _ => by kernel_rfl) ?_
            refine AnyE.pure 25 56 (.bool (t84 == t113)) (by kernel_rfl) hS114 (fun _ => by kernel_rfl) ?_
            refine AnyE.pure 26 4 (.bool (t84 == t113)) (by kernel_rfl) hS114 (fun _ => by kernel_rfl) ?_
            refine AnyE.done (by kernel_rfl) (fun w115 hu116 => ?_)
            have h117 := h111.call hu116
            refine RunsI.only [4] [(4, .bool (t84 == t113))] (by kernel_rfl) (by kernel_rfl) ?_
            refine RunsI.ret (.bool (t84 == t113)) (by kernel_rfl) (by kernel_rfl) ?_
            obtain rfl := Option.some.inj h
            exact ⟨rfl, h117.below⟩
          · skip
            refine AnyE.fix 49 false hc82 (by kernel_rfl) (by kernel_rfl) ?_
            refine AnyE.no 19 50 (by kernel_rfl) hS81 ?_
            refine AnyE.no 20 51 (by kernel_rfl) hS81 ?_
            refine AnyE.no 21 52 (by kernel_rfl) hS81 ?_
            refine AnyE.no 22 53 (by kernel_rfl) hS81 ?_
            refine AnyE.no 23 54 (by kernel_rfl) hS81 ?_
            refine AnyE.no 24 55 (by kernel_rfl) hS81 ?_
            refine AnyE.pure 25 56 (.bool false) (by kernel_rfl) hS81 (fun _ => by kernel_rfl) ?_
            refine AnyE.pure 26 4 (.bool false) (by kernel_rfl) hS81 (fun _ => by kernel_rfl) ?_
            refine AnyE.done (by kernel_rfl) (fun w118 hu119 => ?_)
            have h120 := h78.call hu119
            refine RunsI.only [4] [(4, .bool false)] (by kernel_rfl) (by kernel_rfl) ?_
            refine RunsI.ret (.bool false) (by kernel_rfl) (by kernel_rfl) ?_
            obtain rfl := Option.some.inj h
            exact ⟨rfl, h120.below⟩
        · skip
          refine AnyE.fix 39 false hc49 (by kernel_rfl) (by kernel_rfl) ?_
          refine AnyE.no 9 40 (by kernel_rfl) hS46 ?_
          refine AnyE.no 10 41 (by kernel_rfl) hS46 ?_
          refine AnyE.no 11 42 (by kernel_rfl) hS46 ?_
          refine AnyE.no 12 43 (by kernel_rfl) hS46 ?_
          refine AnyE.no 13 44 (by kernel_rfl) hS46 ?_
          refine AnyE.no 14 45 (by kernel_rfl) hS46 ?_
          refine AnyE.no 15 46 (by kernel_rfl) hS46 ?_
          refine AnyE.no 16 47 (by kernel_rfl) hS46 ?_
          refine AnyE.pure 17 48 (.bool false) (by kernel_rfl) hS46 (fun _ => by kernel_rfl) ?_
          refine AnyE.pure 18 49 (.bool false) (by kernel_rfl) hS46 (fun _ => by kernel_rfl) ?_
          refine AnyE.no 19 50 (by kernel_rfl) hS46 ?_
          refine AnyE.no 20 51 (by kernel_rfl) hS46 ?_
          refine AnyE.no 21 52 (by kernel_rfl) hS46 ?_
          refine AnyE.no 22 53 (by kernel_rfl) hS46 ?_
          refine AnyE.no 23 54 (by kernel_rfl) hS46 ?_
          refine AnyE.no 24 55 (by kernel_rfl) hS46 ?_
          refine AnyE.pure 25 56 (.bool false) (by kernel_rfl) hS46 (fun _ => by kernel_rfl) ?_
          refine AnyE.pure 26 4 (.bool false) (by kernel_rfl) hS46 (fun _ => by kernel_rfl) ?_
          refine AnyE.done (by kernel_rfl) (fun w121 hu122 => ?_)
          have h123 := h45.call hu122
          refine RunsI.only [4] [(4, .bool false)] (by kernel_rfl) (by kernel_rfl) ?_
          refine RunsI.ret (.bool false) (by kernel_rfl) (by kernel_rfl) ?_
          obtain rfl := Option.some.inj h
          exact ⟨rfl, h123.below⟩
      · skip
        refine AnyE.fix 34 false hc48 (by kernel_rfl) (by kernel_rfl) ?_
        refine AnyE.no 4 35 (by kernel_rfl) hS46 ?_
        refine AnyE.no 5 36 (by kernel_rfl) hS46 ?_
        refine AnyE.no 6 37 (by kernel_rfl) hS46 ?_
        refine AnyE.pure 7 38 (.bool false) (by kernel_rfl) hS46 (fun _ => by kernel_rfl) ?_
        refine AnyE.pure 8 39 (.bool false) (by kernel_rfl) hS46 (fun _ => by kernel_rfl) ?_
        refine AnyE.no 9 40 (by kernel_rfl) hS46 ?_
        refine AnyE.no 10 41 (by kernel_rfl) hS46 ?_
        refine AnyE.no 11 42 (by kernel_rfl) hS46 ?_
        refine AnyE.no 12 43 (by kernel_rfl) hS46 ?_
        refine AnyE.no 13 44 (by kernel_rfl) hS46 ?_
        refine AnyE.no 14 45 (by kernel_rfl) hS46 ?_
        refine AnyE.no 15 46 (by kernel_rfl) hS46 ?_
        refine AnyE.no 16 47 (by kernel_rfl) hS46 ?_
        refine AnyE.pure 17 48 (.bool false) (by kernel_rfl) hS46 (fun _ => by kernel_rfl) ?_
        refine AnyE.pure 18 49 (.bool false) (by kernel_rfl) hS46 (fun _ => by kernel_rfl) ?_
        refine AnyE.no 19 50 (by kernel_rfl) hS46 ?_
        refine AnyE.no 20 51 (by kernel_rfl) hS46 ?_
        refine AnyE.no 21 52 (by kernel_rfl) hS46 ?_
        refine AnyE.no 22 53 (by kernel_rfl) hS46 ?_
        refine AnyE.no 23 54 (by kernel_rfl) hS46 ?_
        refine AnyE.no 24 55 (by kernel_rfl) hS46 ?_
        refine AnyE.pure 25 56 (.bool false) (by kernel_rfl) hS46 (fun _ => by kernel_rfl) ?_
        refine AnyE.pure 26 4 (.bool false) (by kernel_rfl) hS46 (fun _ => by kernel_rfl) ?_
        refine AnyE.done (by kernel_rfl) (fun w124 hu125 => ?_)
        have h126 := h45.call hu125
        refine RunsI.only [4] [(4, .bool false)] (by kernel_rfl) (by kernel_rfl) ?_
        refine RunsI.ret (.bool false) (by kernel_rfl) (by kernel_rfl) ?_
        obtain rfl := Option.some.inj h
        exact ⟨rfl, h126.below⟩
end
end Go.Proofs.Ytngcadmhnbpgjaa.Banks
