/- The statement's function CycleTicks as a plain Lean function; written by wip/eng.py. -/
import Derived.Test.YtajnhlkkbhobiaaDoorCyc2
set_option linter.unusedVariables false
set_option linter.unusedSimpArgs false
set_option maxHeartbeats 4000000
namespace Go.Proofs.YtajnhlkkbhobiaaDoor.Cyc
open Go.RowKit Go.Eng
noncomputable def B3 : Code := (Tryd.f3.body).getD .skip
noncomputable def F3 : Fun Tryd.prog := ⟨3, Tryd.f3, B3, 73, Tryd.func3, by kernel_rfl, by kernel_rfl, [], none⟩

/-! ### charabanc/charabanclaw17.CycleTicks (function 3) -/
section
def charabanclaw17_CycleTicks_3.post (M0 : Nat → Prop) (w0 : World) (r : Bool) : Ending → World → Prop := fun e w => e = .returned (.bool r) ∧ Below w0.heap.size w0 w
def charabanclaw17_CycleTicks_3.f (K : Nat) (p0_0_0 : Int) (p0_0_1 : Int) (p0_0_2 : Int) (p0_0_3 : Int) (p0_1 : Int) (p0_2 : Int) (p1 : Bool) : Option Bool := (charabanclaw17_awake_10.f K).bind fun t10 => cond (!t10) (some false) ((cycle_Tick_11.f K p0_0_0 p0_0_1 p0_0_2 p0_0_3 p0_1 p0_2 p1).bind fun yt16 => (charabanclaw17_plain_13.f K p0_0_0 p0_0_1 p0_0_2 p0_0_3 p0_1 p0_2).bind fun yt36 => (charabancref17_Tick_12.f K yt36.1 yt36.2.1 yt36.2.2.1 yt36.2.2.2.1 yt36.2.2.2.2.1 yt36.2.2.2.2.2 p1).bind fun yt46 => (charabanclaw17_plain_13.f K yt16.1 yt16.2.1 yt16.2.2.1 yt16.2.2.2.1 yt16.2.2.2.2.1 yt16.2.2.2.2.2.1).bind fun yt67 => cond (((yt67.1 == yt46.1) && ((yt67.2.1 == yt46.2.1) && ((yt67.2.2.1 == yt46.2.2.1) && ((yt67.2.2.2.1 == yt46.2.2.2.1) && true)))) && ((yt67.2.2.2.2.1 == yt46.2.2.2.2.1) && ((yt67.2.2.2.2.2 == yt46.2.2.2.2.2.1) && true))) (cond (yt16.2.2.2.2.2.2.1 == yt46.2.2.2.2.2.2.1) (cond (yt16.2.2.2.2.2.2.2 == yt46.2.2.2.2.2.2.2) ((cycle_Check_14.f K p0_0_0 p0_0_1 p0_0_2 p0_0_3).bind fun t77 => (charabancref17_Check_15.f K p0_0_0 p0_0_1 p0_0_2 p0_0_3).bind fun t79 => cond (t77 == t79) ((cycle_Sample_16.f K p0_0_0).bind fun t82 => (charabancref17_Sample_17.f K p0_0_0).bind fun t84 => cond (t82 == t84) ((cycle_Sample_16.f K p0_1).bind fun t87 => (charabancref17_Sample_17.f K p0_1).bind fun t89 => some (t87 == t89)) (some false)) (some false)) (some false)) (some false)) (some false))
set_option maxRecDepth 100000 in
theorem charabanclaw17_CycleTicks_3_ok (K : Nat) (M0 : Nat → Prop) (w0 : World) (p0_0_0 : Int) (p0_0_1 : Int) (p0_0_2 : Int) (p0_0_3 : Int) (p0_1 : Int) (p0_2 : Int) (p1 : Bool) (ho : ∀ b, M0 b → b < w0.heap.size) (hG0 : (gl 0 (tab_0.flatMap en_0)).ok w0 M0) (hG1 : (gl 1 (tab_1.flatMap en_1)).ok w0 M0) (hG2 : (gl 2 (tab_2.flatMap en_2)).ok w0 M0) {r : Bool} (h : charabanclaw17_CycleTicks_3.f K p0_0_0 p0_0_1 p0_0_2 p0_0_3 p0_1 p0_2 p1 = some r) :
    Calls Tryd.prog 3 #[.agg #[.int .i64 p0_0_0, .int .u16 p0_0_1, .int .u8 p0_0_2, .int .i64 p0_0_3, .int .i64 p0_1, .int .i64 p0_2], .bool p1] w0 (charabanclaw17_CycleTicks_3.post M0 w0 r) := by
  unfold charabanclaw17_CycleTicks_3.f at h
  have h0 : Holds M0 w0 w0 [] := Holds.start ho
  have h0g0 := h0.add (gl 0 (tab_0.flatMap en_0)) rfl ⟨hG0.1, fun hm => hG0.2.1 (hm.elim id (fun hm => absurd hm (by simp [mines, sl, gl]))), hG0.2.2⟩
  have h0g1 := h0g0.add (gl 1 (tab_1.flatMap en_1)) rfl ⟨hG1.1, fun hm => hG1.2.1 (hm.elim id (fun hm => absurd hm (by simp [mines, sl, gl]))), hG1.2.2⟩
  have h0g2 := h0g1.add (gl 2 (tab_2.flatMap en_2)) rfl ⟨hG2.1, fun hm => hG2.2.1 (hm.elim id (fun hm => absurd hm (by simp [mines, sl, gl]))), hG2.2.2⟩
  have h0 : Holds M0 w0 w0 [gl 0 (tab_0.flatMap en_0), gl 1 (tab_1.flatMap en_1), gl 2 (tab_2.flatMap en_2)] := h0g2
  refine calls_of F3 rfl [.agg #[.int .i64 p0_0_0, .int .u16 p0_0_1, .int .u8 p0_0_2, .int .i64 p0_0_3, .int .i64 p0_1, .int .i64 p0_2], .bool p1] (by kernel_rfl) ?_
  refine RunsI.go 1 [.c 1, .c 2] (by kernel_rfl) ?_
  refine RunsI.region (by kernel_rfl) ?_
  refine RegI.op (by kernel_rfl) (OpE.box 2 26 [.int .i64 p0_0_0, .int .u16 p0_0_1, .int .u8 p0_0_2, .int .i64 p0_0_3, .int .i64 p0_1, .int .i64 p0_2] h0 (by kernel_rfl) (by kernel_rfl) ?_)
  intro w1 b2 h3 hb4 hn5
  refine RegI.pure 1 [1, 2] [(1, .bool p1), (2, .pointer (some ⟨b2, 0, none⟩))] (by kernel_rfl) ?_
  refine RegI.done (by kernel_rfl) ?_
  refine RunsI.go 1 [.c 3, .c 4] (by kernel_rfl) ?_
  refine RunsI.region (by kernel_rfl) ?_
  obtain ⟨t10, hg9, h⟩ := of_bind h
  refine RegI.op (by kernel_rfl) (OpE.call 12 (by kernel_rfl) 10 #[] (by kernel_rfl) ((charabanclaw17_awake_10_ok K _ w1  h3.old' (h3.get 0 rfl) (h3.get 1 rfl) (h3.get 2 rfl) hg9).mono ?_))
  rintro _ w6 ⟨rfl, hb7⟩
  refine ⟨_, rfl, ?_⟩
  have h8 := h3.call hb7
  refine RegI.pure 1 [1, 2, 5] [(1, .bool p1), (2, .pointer (some ⟨b2, 0, none⟩)), (5, .bool t10)] (by kernel_rfl) ?_
  refine RegI.done (by kernel_rfl) ?_
  refine RunsI.go 2 [.c 6, .c 7, .c 12] (by kernel_rfl) ?_
  refine RunsI.region (by kernel_rfl) ?_
  refine RegI.pure 2 [1, 2, 14] [(1, .bool p1), (2, .pointer (some ⟨b2, 0, none⟩)), (14, .bool (!t10))] (by kernel_rfl) ?_
  refine RegI.done (by kernel_rfl) ?_
  rcases of_cond h with ⟨hc11, h⟩ | ⟨hc11, h⟩
  · skip
    refine RunsI.fix 14 true hc11 (by kernel_rfl) (by kernel_rfl) ?_
    refine RunsI.cond true 8 (by kernel_rfl) ?_
    refine RunsI.go 1 [.c 9, .c 10, .c 12] (by kernel_rfl) ?_
    refine RunsI.region (by kernel_rfl) ?_
    refine RegI.pure 1 [4] [(4, .bool false)] (by kernel_rfl) ?_
    refine RegI.done (by kernel_rfl) ?_
    refine RunsI.ret (.bool false) (by kernel_rfl) (by kernel_rfl) ?_
    obtain rfl := Option.some.inj h
    exact ⟨rfl, h8.below⟩
  · skip
    refine RunsI.fix 14 false hc11 (by kernel_rfl) (by kernel_rfl) ?_
    refine RunsI.cond false 11 (by kernel_rfl) ?_
    refine RunsI.go 1 [.c 12] (by kernel_rfl) ?_
    refine RunsI.go 1 [.c 13, .c 14] (by kernel_rfl) ?_
    refine RunsI.region (by kernel_rfl) ?_
    refine RegI.op (by kernel_rfl) (OpE.loadBox 16 3 26 b2 0 (.agg #[.int .i64 p0_0_0, .int .u16 p0_0_1, .int .u8 p0_0_2, .int .i64 p0_0_3, .int .i64 p0_1, .int .i64 p0_2]) h8 (by kernel_rfl) (by kernel_rfl) rfl (by kernel_rfl) ?_)
    refine RegI.pure 1 [1, 2, 16, 17] [(1, .bool p1), (2, .pointer (some ⟨b2, 0, none⟩)), (16, .agg #[.int .i64 p0_0_0, .int .u16 p0_0_1, .int .u8 p0_0_2, .int .i64 p0_0_3, .int .i64 p0_1, .int .i64 p0_2]), (17, .bool p1)] (by kernel_rfl) ?_
    obtain ⟨⟨t16, t17, t18, t19, t20, t21, t22, t23⟩, hg15, h⟩ := of_bind h
    dsimp only at h
    refine RegI.op (by kernel_rfl) (OpE.call 18 (by kernel_rfl) 11 #[.agg #[.int .i64 p0_0_0, .int .u16 p0_0_1, .int .u8 p0_0_2, .int .i64 p0_0_3, .int .i64 p0_1, .int .i64 p0_2], .bool p1] (by kernel_rfl) ((cycle_Tick_11_ok K _ w6  p0_0_0 p0_0_1 p0_0_2 p0_0_3 p0_1 p0_2 p1 h8.old' (h8.get 0 rfl) hg15).mono ?_))
    rintro _ w12 ⟨rfl, hb13⟩
    refine ⟨_, rfl, ?_⟩
    have h14 := h8.call hb13
    refine RegI.pure 4 [1, 2, 19, 20, 21] [(1, .bool p1), (2, .pointer (some ⟨b2, 0, none⟩)), (19, .agg #[.int .i64 t16, .int .u16 t17, .int .u8 t18, .int .i64 t19, .int .i64 t20, .int .i64 t21]), (20, .bool t22), (21, .bool t23)] (by kernel_rfl) ?_
    refine RegI.op (by kernel_rfl) (OpE.box 6 26 [.int .i64 0, .int .u16 0, .int .u8 0, .int .i64 0, .int .i64 0, .int .i64 0] h14 (by kernel_rfl) (by kernel_rfl) ?_)
    intro w24 b25 h26 hb27 hn28
    refine RegI.op (by kernel_rfl) (OpE.storeBox 4 26 b25 0 (.agg #[.int .i64 t16, .int .u16 t17, .int .u8 t18, .int .i64 t19, .int .i64 t20, .int .i64 t21]) [.int .i64 t16, .int .u16 t17, .int .u8 t18, .int .i64 t19, .int .i64 t20, .int .i64 t21] h26 (by kernel_rfl) (by kernel_rfl) rfl (by kernel_rfl) (by kernel_rfl) (by kernel_rfl) ?_)
    intro w29 h30 hk31
    refine RegI.pure 2 [1, 2, 6, 7, 8] [(1, .bool p1), (2, .pointer (some ⟨b2, 0, none⟩)), (6, .pointer (some ⟨b25, 0, none⟩)), (7, .bool t22), (8, .bool t23)] (by kernel_rfl) ?_
    refine RegI.done (by kernel_rfl) ?_
    refine RunsI.go 1 [.c 15, .c 16] (by kernel_rfl) ?_
    refine RunsI.region (by kernel_rfl) ?_
    refine RegI.op (by kernel_rfl) (OpE.loadBox 23 3 26 b2 0 (.agg #[.int .i64 p0_0_0, .int .u16 p0_0_1, .int .u8 p0_0_2, .int .i64 p0_0_3, .int .i64 p0_1, .int .i64 p0_2]) h30 (by kernel_rfl) (by kernel_rfl) rfl (by kernel_rfl) ?_)
    obtain ⟨⟨t36, t37, t38, t39, t40, t41⟩, hg35, h⟩ := of_bind h
    dsimp only at h
    refine RegI.op (by kernel_rfl) (OpE.call 24 (by kernel_rfl) 13 #[.agg #[.int .i64 p0_0_0, .int .u16 p0_0_1, .int .u8 p0_0_2, .int .i64 p0_0_3, .int .i64 p0_1, .int .i64 p0_2]] (by kernel_rfl) ((charabanclaw17_plain_13_ok K _ w29  p0_0_0 p0_0_1 p0_0_2 p0_0_3 p0_1 p0_2 h30.old' hg35).mono ?_))
    rintro _ w32 ⟨rfl, hb33⟩
    refine ⟨_, rfl, ?_⟩
    have h34 := h30.call hb33
    refine RegI.pure 1 [2, 6, 7, 8, 24, 25] [(2, .pointer (some ⟨b2, 0, none⟩)), (6, .pointer (some ⟨b25, 0, none⟩)), (7, .bool t22), (8, .bool t23), (24, .agg #[.int .i64 t36, .int .u16 t37, .int .u8 t38, .int .i64 t39, .int .i64 t40, .int .i64 t41]), (25, .bool p1)] (by kernel_rfl) ?_
    obtain ⟨⟨t46, t47, t48, t49, t50, t51, t52, t53⟩, hg45, h⟩ := of_bind h
    dsimp only at h
    refine RegI.op (by kernel_rfl) (OpE.call 26 (by kernel_rfl) 12 #[.agg #[.int .i64 t36, .int .u16 t37, .int .u8 t38, .int .i64 t39, .int .i64 t40, .int .i64 t41], .bool p1] (by kernel_rfl) ((charabancref17_Tick_12_ok K _ w32  t36 t37 t38 t39 t40 t41 p1 h34.old' hg45).mono ?_))
    rintro _ w42 ⟨rfl, hb43⟩
    refine ⟨_, rfl, ?_⟩
    have h44 := h34.call hb43
    refine RegI.pure 4 [2, 6, 7, 8, 27, 28, 29] [(2, .pointer (some ⟨b2, 0, none⟩)), (6, .pointer (some ⟨b25, 0, none⟩)), (7, .bool t22), (8, .bool t23), (27, .agg #[.int .i64 t46, .int .u16 t47, .int .u8 t48, .int .i64 t49, .int .i64 t50, .int .i64 t51]), (28, .bool t52), (29, .bool t53)] (by kernel_rfl) ?_
    refine RegI.op (by kernel_rfl) (OpE.box 9 30 [.int .i64 0, .int .u16 0, .int .u8 0, .int .i64 0, .int .i64 0, .int .i64 0] h44 (by kernel_rfl) (by kernel_rfl) ?_)
    intro w54 b55 h56 hb57 hn58
    refine RegI.op (by kernel_rfl) (OpE.storeBox 5 30 b55 0 (.agg #[.int .i64 t46, .int .u16 t47, .int .u8 t48, .int .i64 t49, .int .i64 t50, .int .i64 t51]) [.int .i64 t46, .int .u16 t47, .int .u8 t48, .int .i64 t49, .int .i64 t50, .int .i64 t51] h56 (by kernel_rfl) (by kernel_rfl) rfl (by kernel_rfl) (by kernel_rfl) (by kernel_rfl) ?_)
    intro w59 h60 hk61
    refine RegI.pure 2 [2, 6, 7, 8, 9, 10, 11] [(2, .pointer (some ⟨b2, 0, none⟩)), (6, .pointer (some ⟨b25, 0, none⟩)), (7, .bool t22), (8, .bool t23), (9, .pointer (some ⟨b55, 0, none⟩)), (10, .bool t52), (11, .bool t53)] (by kernel_rfl) ?_
    refine RegI.done (by kernel_rfl) ?_
    refine RunsI.go 1 [.c 17, .c 18] (by kernel_rfl) ?_
    refine RunsI.any 44 (by kernel_rfl) (by kernel_rfl) (by kernel_rfl) (Kp ([] : List Nat) (World.drew w59)) ?_
    have h63 := h60.drew
    generalize World.drew w59 = w62 at h63 ⊢
    have hS64 := Kp.refl ([] : List Nat) w62
    refine AnyE.loadBox 0 30 4 26 b25 0 (.agg #[.int .i64 t16, .int .u16 t17, .int .u8 t18, .int .i64 t19, .int .i64 t20, .int .i64 t21]) [] h63 rfl (by kernel_rfl) hS64 rfl rfl (by kernel_rfl) (by kernel_rfl) ?_
    obtain ⟨⟨t67, t68, t69, t70, t71, t72⟩, hg66, h⟩ := of_bind h
    dsimp only at h
    refine AnyE.call 1 31 (.agg #[.int .i64 t67, .int .u16 t68, .int .u8 t69, .int .i64 t70, .int .i64 t71, .int .i64 t72]) 13 #[.agg #[.int .i64 t16, .int .u16 t17, .int .u8 t18, .int .i64 t19, .int .i64 t20, .int .i64 t21]] (by kernel_rfl) hS64 (fun _ => by kernel_rfl) (fun w hk => charabanclaw17_plain_13_ok K (fun _ => False) w t16 t17 t18 t19 t20 t21 (fun _ hf => hf.elim) hg66) ?_
    refine AnyE.loadBox 2 32 5 30 b55 0 (.agg #[.int .i64 t46, .int .u16 t47, .int .u8 t48, .int .i64 t49, .int .i64 t50, .int .i64 t51]) [] h63 rfl (by kernel_rfl) hS64 rfl rfl (by kernel_rfl) (by kernel_rfl) ?_
    refine AnyE.run 3 33 (.bool (((t67 == t46) && ((t68 == t47) && ((t69 == t48) && ((t70 == t49) && true)))) && ((t71 == t50) && ((t72 == t51) && true)))) (by kernel_rfl) hS64 (fun _ hk => run_eqS (neg := false) (t := 30) (x := .agg #[.int .i64 t67, .int .u16 t68, .int .u8 t69, .int .i64 t70, .int .i64 t71, .int .i64 t72]) (y := .agg #[.int .i64 t46, .int .u16 t47, .int .u8 t48, .int .i64 t49, .int .i64 t50, .int .i64 t51]) (b := (((t67 == t46) && ((t68 == t47) && ((t69 == t48) && ((t70 == t49) && true)))) && ((t71 == t50) && ((t72 == t51) && true)))) (by kernel_rfl) (by kernel_rfl) (by kernel_rfl) (by kernel_rfl)) ?_
    refine AnyE.pure 4 34 (.bool (((t67 == t46) && ((t68 == t47) && ((t69 == t48) && ((t70 == t49) && true)))) && ((t71 == t50) && ((t72 == t51) && true)))) (by kernel_rfl) hS64 (fun _ => by kernel_rfl) ?_
    rcases of_cond h with ⟨hc73, h⟩ | ⟨hc73, h⟩
    · skip
      refine AnyE.fix 34 true hc73 (by kernel_rfl) (by kernel_rfl) ?_
      refine AnyE.pure 5 35 (.bool t22) (by kernel_rfl) hS64 (fun _ => by kernel_rfl) ?_
      refine AnyE.pure 6 36 (.bool t52) (by kernel_rfl) hS64 (fun _ => by kernel_rfl) ?_
      refine AnyE.pure 7 37 (.bool (t22 == t52)) (by kernel_rfl) hS64 (fun _ => by kernel_rfl) ?_
      refine AnyE.pure 8 38 (.bool (t22 == t52)) (by kernel_rfl) hS64 (fun _ => by kernel_rfl) ?_
      refine AnyE.pure 9 39 (.bool (t22 == t52)) (by kernel_rfl) hS64 (fun _ => by kernel_rfl) ?_
      rcases of_cond h with ⟨hc74, h⟩ | ⟨hc74, h⟩
      · skip
        refine AnyE.fix 39 true hc74 (by kernel_rfl) (by kernel_rfl) ?_
        refine AnyE.pure 10 40 (.bool t23) (by kernel_rfl) hS64 (fun _ => by kernel_rfl) ?_
        refine AnyE.pure 11 41 (.bool t53) (by kernel_rfl) hS64 (fun _ => by kernel_rfl) ?_
        refine AnyE.pure 12 42 (.bool (t23 == t53)) (by kernel_rfl) hS64 (fun _ => by kernel_rfl) ?_
        refine AnyE.pure 13 43 (.bool (t23 == t53)) (by kernel_rfl) hS64 (fun _ => by kernel_rfl) ?_
        refine AnyE.pure 14 44 (.bool (t23 == t53)) (by kernel_rfl) hS64 (fun _ => by kernel_rfl) ?_
        rcases of_cond h with ⟨hc75, h⟩ | ⟨hc75, h⟩
        · skip
          refine AnyE.fix 44 true hc75 (by kernel_rfl) (by kernel_rfl) ?_
          refine AnyE.pure 15 45 (.pointer (some ⟨b2, 0, none⟩)) (by kernel_rfl) hS64 (fun _ => by kernel_rfl) ?_
          refine AnyE.loadBox 16 46 3 24 b2 0 (.agg #[.int .i64 p0_0_0, .int .u16 p0_0_1, .int .u8 p0_0_2, .int .i64 p0_0_3]) [] h63 rfl (by kernel_rfl) hS64 rfl rfl (by kernel_rfl) (by kernel_rfl) ?_
          obtain ⟨t77, hg76, h⟩ := of_bind h
          refine AnyE.call 17 47 (.int .i64 t77) 14 #[.agg #[.int .i64 p0_0_0, .int .u16 p0_0_1, .int .u8 p0_0_2, .int .i64 p0_0_3]] (by kernel_rfl) hS64 (fun _ => by kernel_rfl) (fun w hk => cycle_Check_14_ok K (fun _ => False) w p0_0_0 p0_0_1 p0_0_2 p0_0_3 (fun _ hf => hf.elim) ⟨(h63.atI [] rfl hk 0 rfl rfl).1, fun hf => hf.elim, (h63.atI [] rfl hk 0 rfl rfl).2.2⟩ hg76) ?_
          refine AnyE.pure 18 48 (.pointer (some ⟨b2, 0, none⟩)) (by kernel_rfl) hS64 (fun _ => by kernel_rfl) ?_
          refine AnyE.loadBox 19 49 3 24 b2 0 (.agg #[.int .i64 p0_0_0, .int .u16 p0_0_1, .int .u8 p0_0_2, .int .i64 p0_0_3]) [] h63 rfl (by kernel_rfl) hS64 rfl rfl (by kernel_rfl) (by kernel_rfl) ?_
          obtain ⟨t79, hg78, h⟩ := of_bind h
          refine AnyE.call 20 50 (.int .i64 t79) 15 #[.agg #[.int .i64 p0_0_0, .int .u16 p0_0_1, .int .u8 p0_0_2, .int .i64 p0_0_3]] (by kernel_rfl) hS64 (fun _ => by kernel_rfl) (fun w hk => charabancref17_Check_15_ok K (fun _ => False) w p0_0_0 p0_0_1 p0_0_2 p0_0_3 (fun _ hf => hf.elim) hg78) ?_
          refine AnyE.pure 21 51 (.bool (t77 == t79)) (by kernel_rfl) hS64 (fun _ => by kernel_rfl) ?_
          refine AnyE.pure 22 52 (.bool (t77 == t79)) (by kernel_rfl) hS64 (fun _ => by kernel_rfl) ?_
          refine AnyE.pure 23 53 (.bool (t77 == t79)) (by kernel_rfl) hS64 (fun _ => by kernel_rfl) ?_
          rcases of_cond h with ⟨hc80, h⟩ | ⟨hc80, h⟩
          · skip
            refine AnyE.fix 53 true hc80 (by kernel_rfl) (by kernel_rfl) ?_
            refine AnyE.pure 24 54 (.pointer (some ⟨b2, 0, none⟩)) (by kernel_rfl) hS64 (fun _ => by kernel_rfl) ?_
            refine AnyE.pure 25 55 (.pointer (some ⟨b2, 0, none⟩)) (by kernel_rfl) hS64 (fun _ => by kernel_rfl) ?_
            refine AnyE.loadBox 26 56 3 3 b2 0 (.int .i64 p0_0_0) [] h63 rfl (by kernel_rfl) hS64 rfl rfl (by kernel_rfl) (by kernel_rfl) ?_
            obtain ⟨t82, hg81, h⟩ := of_bind h
            refine AnyE.call 27 57 (.int .i64 t82) 16 #[.int .i64 p0_0_0] (by kernel_rfl) hS64 (fun _ => by kernel_rfl) (fun w hk => cycle_Sample_16_ok K (fun _ => False) w p0_0_0 (fun _ hf => hf.elim) ⟨(h63.atI [] rfl hk 0 rfl rfl).1, fun hf => hf.elim, (h63.atI [] rfl hk 0 rfl rfl).2.2⟩ hg81) ?_
            refine AnyE.pure 28 58 (.pointer (some ⟨b2, 0, none⟩)) (by kernel_rfl) hS64 (fun _ => by kernel_rfl) ?_
            refine AnyE.pure 29 59 (.pointer (some ⟨b2, 0, none⟩)) (by kernel_rfl) hS64 (fun _ => by kernel_rfl) ?_
            refine AnyE.loadBox 30 60 3 3 b2 0 (.int .i64 p0_0_0) [] h63 rfl (by kernel_rfl) hS64 rfl rfl (by kernel_rfl) (by kernel_rfl) ?_
            obtain ⟨t84, hg83, h⟩ := of_bind h
            refine AnyE.call 31 61 (.int .i64 t84) 17 #[.int .i64 p0_0_0] (by kernel_rfl) hS64 (fun _ => by kernel_rfl) (fun w hk => charabancref17_Sample_17_ok K (fun _ => False) w p0_0_0 (fun _ hf => hf.elim) hg83) ?_
            refine AnyE.pure 32 62 (.bool (t82 == t84)) (by kernel_rfl) hS64 (fun _ => by kernel_rfl) ?_
            refine AnyE.pure 33 63 (.bool (t82 == t84)) (by kernel_rfl) hS64 (fun _ => by kernel_rfl) ?_
            refine AnyE.pure 34 64 (.bool (t82 == t84)) (by kernel_rfl) hS64 (fun _ => by kernel_rfl) ?_
            rcases of_cond h with ⟨hc85, h⟩ | ⟨hc85, h⟩
            · skip
              refine AnyE.fix 64 true hc85 (by kernel_rfl) (by kernel_rfl) ?_
              refine AnyE.pure 35 65 (.pointer (some ⟨b2, 4, none⟩)) (by kernel_rfl) hS64 (fun _ => by kernel_rfl) ?_
              refine AnyE.loadBox 36 66 3 3 b2 4 (.int .i64 p0_1) [] h63 rfl (by kernel_rfl) hS64 rfl rfl (by kernel_rfl) (by kernel_rfl) ?_
              obtain ⟨t87, hg86, h⟩ := of_bind h
              refine AnyE.call 37 67 (.int .i64 t87) 16 #[.int .i64 p0_1] (by kernel_rfl) hS64 (fun _ => by kernel_rfl) (fun w hk => cycle_Sample_16_ok K (fun _ => False) w p0_1 (fun _ hf => hf.elim) ⟨(h63.atI [] rfl hk 0 rfl rfl).1, fun hf => hf.elim, (h63.atI [] rfl hk 0 rfl rfl).2.2⟩ hg86) ?_
              refine AnyE.pure 38 68 (.pointer (some ⟨b2, 4, none⟩)) (by kernel_rfl) hS64 (fun _ => by kernel_rfl) ?_
              refine AnyE.loadBox 39 69 3 3 b2 4 (.int .i64 p0_1) [] h63 rfl (by kernel_rfl) hS64 rfl rfl (by kernel_rfl) (by kernel_rfl) ?_
              obtain ⟨t89, hg88, h⟩ := of_bind h
              refine AnyE.call 40 70 (.int .i64 t89) 17 #[.int .i64 p0_1] (by kernel_rfl) hS64 (fun _ => by kernel_rfl) (fun w hk => charabancref17_Sample_17_ok K (fun _ => False) w p0_1 (fun _ hf => hf.elim) hg88) ?_
              refine AnyE.pure 41 71 (.bool (t87 == t89)) (by kernel_rfl) hS64 (fun _ => by kernel_rfl) ?_
              refine AnyE.pure 42 72 (.bool (t87 == t89)) (by kernel_rfl) hS64 (fun _ => by kernel_rfl) ?_
              refine AnyE.pure 43 4 (.bool (t87 == t89)) (by kernel_rfl) hS64 (fun _ => by kernel_rfl) ?_
              refine AnyE.done (by kernel_rfl) (fun w90 hu91 => ?_)
              have h92 := h63.call hu91
              refine RunsI.only [4] [(4, .bool (t87 == t89))] (by kernel_rfl) (by kernel_rfl) ?_
              refine RunsI.ret (.bool (t87 == t89)) (by kernel_rfl) (by kernel_rfl) ?_
              obtain rfl := Option.some.inj h
              exact ⟨rfl, h92.below⟩
            · skip
              refine AnyE.fix 64 false hc85 (by kernel_rfl) (by kernel_rfl) ?_
              refine AnyE.no 35 65 (by kernel_rfl) hS64 ?_
              refine AnyE.no 36 66 (by kernel_rfl) hS64 ?_
              refine AnyE.no 37 67 (by kernel_rfl) hS64 ?_
              refine AnyE.no 38 68 (by kernel_rfl) hS64 ?_
              refine AnyE.no 39 69 (by kernel_rfl) hS64 ?_
              refine AnyE.no 40 70 (by kernel_rfl) hS64 ?_
              refine AnyE.no 41 71 (by kernel_rfl) hS64 ?_
              refine AnyE.pure 42 72 (.bool false) (by kernel_rfl) hS64 (fun _ => by kernel_rfl) ?_
              refine AnyE.pure 43 4 (.bool false) (by kernel_rfl) hS64 (fun _ => by kernel_rfl) ?_
              refine AnyE.done (by kernel_rfl) (fun w93 hu94 => ?_)
              have h95 := h63.call hu94
              refine RunsI.only [4] [(4, .bool false)] (by kernel_rfl) (by kernel_rfl) ?_
              refine RunsI.ret (.bool false) (by kernel_rfl) (by kernel_rfl) ?_
              obtain rfl := Option.some.inj h
              exact ⟨rfl, h95.below⟩
          · skip
            refine AnyE.fix 53 false hc80 (by kernel_rfl) (by kernel_rfl) ?_
            refine AnyE.no 24 54 (by kernel_rfl) hS64 ?_
            refine AnyE.no 25 55 (by kernel_rfl) hS64 ?_
            refine AnyE.no 26 56 (by kernel_rfl) hS64 ?_
            refine AnyE.no 27 57 (by kernel_rfl) hS64 ?_
            refine AnyE.no 28 58 (by kernel_rfl) hS64 ?_
            refine AnyE.no 29 59 (by kernel_rfl) hS64 ?_
            refine AnyE.no 30 60 (by kernel_rfl) hS64 ?_
            refine AnyE.no 31 61 (by kernel_rfl) hS64 ?_
            refine AnyE.no 32 62 (by kernel_rfl) hS64 ?_
            refine AnyE.pure 33 63 (.bool false) (by kernel_rfl) hS64 (fun _ => by kernel_rfl) ?_
            refine AnyE.pure 34 64 (.bool false) (by kernel_rfl) hS64 (fun _ => by kernel_rfl) ?_
            refine AnyE.no 35 65 (by kernel_rfl) hS64 ?_
            refine AnyE.no 36 66 (by kernel_rfl) hS64 ?_
            refine AnyE.no 37 67 (by kernel_rfl) hS64 ?_
            refine AnyE.no 38 68 (by kernel_rfl) hS64 ?_
            refine AnyE.no 39 69 (by kernel_rfl) hS64 ?_
            refine AnyE.no 40 70 (by kernel_rfl) hS64 ?_
            refine AnyE.no 41 71 (by kernel_rfl) hS64 ?_
            refine AnyE.pure 42 72 (.bool false) (by kernel_rfl) hS64 (fun _ => by kernel_rfl) ?_
            refine AnyE.pure 43 4 (.bool false) (by kernel_rfl) hS64 (fun _ => by kernel_rfl) ?_
            refine AnyE.done (by kernel_rfl) (fun w96 hu97 => ?_)
            have h98 := h63.call hu97
            refine RunsI.only [4] [(4, .bool false)] (by kernel_rfl) (by kernel_rfl) ?_
            refine RunsI.ret (.bool false) (by kernel_rfl) (by kernel_rfl) ?_
            obtain rfl := Option.some.inj h
            exact ⟨rfl, h98.below⟩
        · skip
          refine AnyE.fix 44 false hc75 (by kernel_rfl) (by kernel_rfl) ?_
          refine AnyE.no 15 45 (by kernel_rfl) hS64 ?_
          refine AnyE.no 16 46 (by kernel_rfl) hS64 ?_
          refine AnyE.no 17 47 (by kernel_rfl) hS64 ?_
          refine AnyE.no 18 48 (by kernel_rfl) hS64 ?_
          refine AnyE.no 19 49 (by kernel_rfl) hS64 ?_
          refine AnyE.no 20 50 (by kernel_rfl) hS64 ?_
          refine AnyE.no 21 51 (by kernel_rfl) hS64 ?_
          refine AnyE.pure 22 52 (.bool false) (by kernel_rfl) hS64 (fun _ => by kernel_rfl) ?_
          refine AnyE.pure 23 53 (.bool false) (by kernel_rfl) hS64 (fun _ => by kernel_rfl) ?_
          refine AnyE.no 24 54 (by kernel_rfl) hS64 ?_
          refine AnyE.no 25 55 (by kernel_rfl) hS64 ?_
          refine AnyE.no 26 56 (by kernel_rfl) hS64 ?_
          refine AnyE.no 27 57 (by kernel_rfl) hS64 ?_
          refine AnyE.no 28 58 (by kernel_rfl) hS64 ?_
          refine AnyE.no 29 59 (by kernel_rfl) hS64 ?_
          refine AnyE.no 30 60 (by kernel_rfl) hS64 ?_
          refine AnyE.no 31 61 (by kernel_rfl) hS64 ?_
          refine AnyE.no 32 62 (by kernel_rfl) hS64 ?_
          refine AnyE.pure 33 63 (.bool false) (by kernel_rfl) hS64 (fun _ => by kernel_rfl) ?_
          refine AnyE.pure 34 64 (.bool false) (by kernel_rfl) hS64 (fun _ => by kernel_rfl) ?_
          refine AnyE.no 35 65 (by kernel_rfl) hS64 ?_
          refine AnyE.no 36 66 (by kernel_rfl) hS64 ?_
          refine AnyE.no 37 67 (by kernel_rfl) hS64 ?_
          refine AnyE.no 38 68 (by kernel_rfl) hS64 ?_
          refine AnyE.no 39 69 (by kernel_rfl) hS64 ?_
          refine AnyE.no 40 70 (by kernel_rfl) hS64 ?_
          refine AnyE.no 41 71 (by kernel_rfl) hS64 ?_
          refine AnyE.pure 42 72 (.bool false) (by kernel_rfl) hS64 (fun _ => by kernel_rfl) ?_
          refine AnyE.pure 43 4 (.bool false) (by kernel_rfl) hS64 (fun _ => by kernel_rfl) ?_
          refine AnyE.done (by kernel_rfl) (fun w99 hu100 => ?_)
          have h101 := h63.call hu100
          refine RunsI.only [4] [(4, .bool false)] (by kernel_rfl) (by kernel_rfl) ?_
          refine RunsI.ret (.bool false) (by kernel_rfl) (by kernel_rfl) ?_
          obtain rfl := Option.some.inj h
          exact ⟨rfl, h101.below⟩
      · skip
        refine AnyE.fix 39 false hc74 (by kernel_rfl) (by kernel_rfl) ?_
        refine AnyE.no 10 40 (by kernel_rfl) hS64 ?_
        refine AnyE.no 11 41 (by kernel_rfl) hS64 ?_
        refine AnyE.no 12 42 (by kernel_rfl) hS64 ?_
        refine AnyE.pure 13 43 (.bool false) (by kernel_rfl) hS64 (fun _ => by kernel_rfl) ?_
        refine AnyE.pure 14 44 (.bool false) (by kernel_rfl) hS64 (fun _ => by kernel_rfl) ?_
        refine AnyE.no 15 45 (by kernel_rfl) hS64 ?_
        refine AnyE.no 16 46 (by kernel_rfl) hS64 ?_
        refine AnyE.no 17 47 (by kernel_rfl) hS64 ?_
        refine AnyE.no 18 48 (by kernel_rfl) hS64 ?_
        refine AnyE.no 19 49 (by kernel_rfl) hS64 ?_
        refine AnyE.no 20 50 (by kernel_rfl) hS64 ?_
        refine AnyE.no 21 51 (by kernel_rfl) hS64 ?_
        refine AnyE.pure 22 52 (.bool false) (by kernel_rfl) hS64 (fun _ => by kernel_rfl) ?_
        refine AnyE.pure 23 53 (.bool false) (by kernel_rfl) hS64 (fun _ => by kernel_rfl) ?_
        refine AnyE.no 24 54 (by kernel_rfl) hS64 ?_
        refine AnyE.no 25 55 (by kernel_rfl) hS64 ?_
        refine AnyE.no 26 56 (by kernel_rfl) hS64 ?_
        refine AnyE.no 27 57 (by kernel_rfl) hS64 ?_
        refine AnyE.no 28 58 (by kernel_rfl) hS64 ?_
        refine AnyE.no 29 59 (by kernel_rfl) hS64 ?_
        refine AnyE.no 30 60 (by kernel_rfl) hS64 ?_
        refine AnyE.no 31 61 (by kernel_rfl) hS64 ?_
        refine AnyE.no 32 62 (by kernel_rfl) hS64 ?_
        refine AnyE.pure 33 63 (.bool false) (by kernel_rfl) hS64 (fun _ => by kernel_rfl) ?_
        refine AnyE.pure 34 64 (.bool false) (by kernel_rfl) hS64 (fun _ => by kernel_rfl) ?_
        refine AnyE.no 35 65 (by kernel_rfl) hS64 ?_
        refine AnyE.no 36 66 (by kernel_rfl) hS64 ?_
        refine AnyE.no 37 67 (by kernel_rfl) hS64 ?_
        refine AnyE.no 38 68 (by kernel_rfl) hS64 ?_
        refine AnyE.no 39 69 (by kernel_rfl) hS64 ?_
        refine AnyE.no 40 70 (by kernel_rfl) hS64 ?_
        refine AnyE.no 41 71 (by kernel_rfl) hS64 ?_
        refine AnyE.pure 42 72 (.bool false) (by kernel_rfl) hS64 (fun _ => by kernel_rfl) ?_
        refine AnyE.pure 43 4 (.bool false) (by kernel_rfl) hS64 (fun _ => by kernel_rfl) ?_
        refine AnyE.done (by kernel_rfl) (fun w102 hu103 => ?_)
        have h104 := h63.call hu103
        refine RunsI.only [4] [(4, .bool false)] (by kernel_rfl) (by kernel_rfl) ?_
        refine RunsI.ret (.bool false) (by kernel_rfl) (by kernel_rfl) ?_
        obtain rfl := Option.some.inj h
        exact ⟨rfl, h104.below⟩
    · skip
      refine AnyE.fix 34 false hc73 (by kernel_rfl) (by kernel_rfl) ?_
      refine AnyE.no 5 35 (by kernel_rfl) hS64 ?_
      refine AnyE.no 6 36 (by kernel_rfl) hS64 ?_
      refine AnyE.no 7 37 (by kernel_rfl) hS64 ?_
      refine AnyE.pure 8 38 (.bool false) (by kernel_rfl) hS64 (fun _ => by kernel_rfl) ?_
      refine AnyE.pure 9 39 (.bool false) (by kernel_rfl) hS64 (fun _ => by kernel_rfl) ?_
      refine AnyE.no 10 40 (by kernel_rfl) hS64 ?_
      refine AnyE.no 11 41 (by kernel_rfl) hS64 ?_
      refine AnyE.no 12 42 (by kernel_rfl) hS64 ?_
      refine AnyE.pure 13 43 (.bool false) (by kernel_rfl) hS64 (fun _ => by kernel_rfl) ?_
      refine AnyE.pure 14 44 (.bool false) (by kernel_rfl) hS64 (fun _ => by kernel_rfl) ?_
      refine AnyE.no 15 45 (by kernel_rfl) hS64 ?_
      refine AnyE.no 16 46 (by kernel_rfl) hS64 ?_
      refine AnyE.no 17 47 (by kernel_rfl) hS64 ?_
      refine AnyE.no 18 48 (by kernel_rfl) hS64 ?_
      refine AnyE.no 19 49 (by kernel_rfl) hS64 ?_
      refine AnyE.no 20 50 (by kernel_rfl) hS64 ?_
      refine AnyE.no 21 51 (by kernel_rfl) hS64 ?_
      refine AnyE.pure 22 52 (.bool false) (by kernel_rfl) hS64 (fun _ => by kernel_rfl) ?_
      refine AnyE.pure 23 53 (.bool false) (by kernel_rfl) hS64 (fun _ => by kernel_rfl) ?_
      refine AnyE.no 24 54 (by kernel_rfl) hS64 ?_
      refine AnyE.no 25 55 (by kernel_rfl) hS64 ?_
      refine AnyE.no 26 56 (by kernel_rfl) hS64 ?_
      refine AnyE.no 27 57 (by kernel_rfl) hS64 ?_
      refine AnyE.no 28 58 (by kernel_rfl) hS64 ?_
      refine AnyE.no 29 59 (by kernel_rfl) hS64 ?_
      refine AnyE.no 30 60 (by kernel_rfl) hS64 ?_
      refine AnyE.no 31 61 (by kernel_rfl) hS64 ?_
      refine AnyE.no 32 62 (by kernel_rfl) hS64 ?_
      refine AnyE.pure 33 63 (.bool false) (by kernel_rfl) hS64 (fun _ => by kernel_rfl) ?_
      refine AnyE.pure 34 64 (.bool false) (by kernel_rfl) hS64 (fun _ => by kernel_rfl) ?_
      refine AnyE.no 35 65 (by kernel_rfl) hS64 ?_
      refine AnyE.no 36 66 (by kernel_rfl) hS64 ?_
      refine AnyE.no 37 67 (by kernel_rfl) hS64 ?_
      refine AnyE.no 38 68 (by kernel_rfl) hS64 ?_
      refine AnyE.no 39 69 (by kernel_rfl) hS64 ?_
      refine AnyE.no 40 70 (by kernel_rfl) hS64 ?_
      refine AnyE.no 41 71 (by kernel_rfl) hS64 ?_
      refine AnyE.pure 42 72 (.bool false) (by kernel_rfl) hS64 (fun _ => by kernel_rfl) ?_
      refine AnyE.pure 43 4 (.bool false) (by kernel_rfl) hS64 (fun _ => by kernel_rfl) ?_
      refine AnyE.done (by kernel_rfl) (fun w105 hu106 => ?_)
      have h107 := h63.call hu106
      refine RunsI.only [4] [(4, .bool false)] (by kernel_rfl) (by kernel_rfl) ?_
      refine RunsI.ret (.bool false) (by kernel_rfl) (by kernel_rfl) ?_
      obtain rfl := Option.some.inj h
      exact ⟨rfl, h107.below⟩
end
end Go.Proofs.YtajnhlkkbhobiaaDoor.Cyc
