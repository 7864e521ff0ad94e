/- The statement's function TimesOf as a plain Lean function; written by wip/eng.py. -/
import Derived.Test.YtmcdkmakjjlcnaaDoorTim4
set_option linter.unusedVariables false
set_option linter.unusedSimpArgs false
set_option maxHeartbeats 4000000
namespace Go.Proofs.YtmcdkmakjjlcnaaDoor.Tim
open Go.RowKit Go.Eng
noncomputable def B3 : Code := (Tryd.f3.body).getD .skip
noncomputable def F3 : Fun Tryd.prog := ⟨3, Tryd.f3, B3, 23, Tryd.func3, by kernel_rfl, by kernel_rfl, [], none⟩

/-! ### charabanc/charabanclaw10.TimesOf (function 3) -/
section
def charabanclaw10_TimesOf_3.post (M0 : Nat → Prop) (w0 : World) (r : Bool) : Ending → World → Prop := fun e w => e = .returned (.bool r) ∧ Below w0.heap.size w0 w
def charabanclaw10_TimesOf_3.f (K : Nat) (p0_0 : Int) (p0_1 : Int) (p0_2 : Int) (p0_3 : Int) (p0_4 : Int) (p0_5 : Int) (p1 : Bool) : Option Bool := (charabanclaw10_awake_8.f K).bind fun t10 => cond (!t10) (some false) ((times_Of_9.f K p0_0 p0_1 p0_2 p0_3 p0_4 p0_5 p1).bind fun t17 => (charabancref10_Of_10.f K p0_0 p0_1 p0_2 p0_3 p0_4 p0_5 p1).bind fun t19 => cond (t17 == t19) ((times_Asks_11.f K p0_0 p0_1 p0_2 p0_3 p0_4 p0_5).bind fun t22 => (charabancref10_Asks_12.f K p0_0 p0_1 p0_2 p0_3 p0_4 p0_5).bind fun t24 => some (t22 == t24)) (some false))
set_option maxRecDepth 100000 in
theorem charabanclaw10_TimesOf_3_ok (K : Nat) (M0 : Nat → Prop) (w0 : World) (p0_0 : Int) (p0_1 : Int) (p0_2 : Int) (p0_3 : Int) (p0_4 : Int) (p0_5 : Int) (p1 : Bool) (ho : ∀ b, M0 b → b < w0.heap.size) (hG0 : (gl 0 (tab_0.flatMap en_0)).ok w0 M0) (hG1 : (gl 1 (tab_1.flatMap en_1)).ok w0 M0) {r : Bool} (h : charabanclaw10_TimesOf_3.f K p0_0 p0_1 p0_2 p0_3 p0_4 p0_5 p1 = some r) :
    Calls Tryd.prog 3 #[.agg #[.int .i64 p0_0, .int .u8 p0_1, .int .u8 p0_2, .int .u16 p0_3, .int .i64 p0_4, .int .i64 p0_5], .bool p1] w0 (charabanclaw10_TimesOf_3.post M0 w0 r) := by
  unfold charabanclaw10_TimesOf_3.f at h
  have h0 : Holds M0 w0 w0 [] := Holds.start ho
  have h0g0 := h0.add (gl 0 (tab_0.flatMap en_0)) rfl ⟨hG0.1, fun hm => hG0.2.1 (hm.elim id (fun hm => absurd hm (by simp [mines, sl, gl]))), hG0.2.2⟩
  have h0g1 := h0g0.add (gl 1 (tab_1.flatMap en_1)) rfl ⟨hG1.1, fun hm => hG1.2.1 (hm.elim id (fun hm => absurd hm (by simp [mines, sl, gl]))), hG1.2.2⟩
  have h0 : Holds M0 w0 w0 [gl 0 (tab_0.flatMap en_0), gl 1 (tab_1.flatMap en_1)] := h0g1
  refine calls_of F3 rfl [.agg #[.int .i64 p0_0, .int .u8 p0_1, .int .u8 p0_2, .int .u16 p0_3, .int .i64 p0_4, .int .i64 p0_5], .bool p1] (by kernel_rfl) ?_
  refine RunsI.go 1 [.c 1, .c 2] (by kernel_rfl) ?_
  refine RunsI.region (by kernel_rfl) ?_
  refine RegI.op (by kernel_rfl) (OpE.box 2 24 [.int .i64 p0_0, .int .u8 p0_1, .int .u8 p0_2, .int .u16 p0_3, .int .i64 p0_4, .int .i64 p0_5] h0 (by kernel_rfl) (by kernel_rfl) ?_)
  intro w1 b2 h3 hb4 hn5
  refine RegI.pure 1 [1, 2] [(1, .bool p1), (2, .pointer (some ⟨b2, 0, none⟩))] (by kernel_rfl) ?_
  refine RegI.done (by kernel_rfl) ?_
  refine RunsI.go 1 [.c 3, .c 4] (by kernel_rfl) ?_
  refine RunsI.region (by kernel_rfl) ?_
  obtain ⟨t10, hg9, h⟩ := of_bind h
  refine RegI.op (by kernel_rfl) (OpE.call 6 (by kernel_rfl) 8 #[] (by kernel_rfl) ((charabanclaw10_awake_8_ok K _ w1  h3.old' (h3.get 0 rfl) (h3.get 1 rfl) hg9).mono ?_))
  rintro _ w6 ⟨rfl, hb7⟩
  refine ⟨_, rfl, ?_⟩
  have h8 := h3.call hb7
  refine RegI.pure 1 [1, 2, 5] [(1, .bool p1), (2, .pointer (some ⟨b2, 0, none⟩)), (5, .bool t10)] (by kernel_rfl) ?_
  refine RegI.done (by kernel_rfl) ?_
  refine RunsI.go 2 [.c 6, .c 7, .c 12] (by kernel_rfl) ?_
  refine RunsI.region (by kernel_rfl) ?_
  refine RegI.pure 2 [1, 2, 8] [(1, .bool p1), (2, .pointer (some ⟨b2, 0, none⟩)), (8, .bool (!t10))] (by kernel_rfl) ?_
  refine RegI.done (by kernel_rfl) ?_
  rcases of_cond h with ⟨hc11, h⟩ | ⟨hc11, h⟩
  · skip
    refine RunsI.fix 8 true hc11 (by kernel_rfl) (by kernel_rfl) ?_
    refine RunsI.cond true 8 (by kernel_rfl) ?_
    refine RunsI.go 1 [.c 9, .c 10, .c 12] (by kernel_rfl) ?_
    refine RunsI.region (by kernel_rfl) ?_
    refine RegI.pure 1 [4] [(4, .bool false)] (by kernel_rfl) ?_
    refine RegI.done (by kernel_rfl) ?_
    refine RunsI.ret (.bool false) (by kernel_rfl) (by kernel_rfl) ?_
    obtain rfl := Option.some.inj h
    exact ⟨rfl, h8.below⟩
  · skip
    refine RunsI.fix 8 false hc11 (by kernel_rfl) (by kernel_rfl) ?_
    refine RunsI.cond false 11 (by kernel_rfl) ?_
    refine RunsI.go 1 [.c 12] (by kernel_rfl) ?_
    refine RunsI.go 1 [.c 13, .c 14] (by kernel_rfl) ?_
    refine RunsI.any 15 (by kernel_rfl) (by kernel_rfl) (by kernel_rfl) (Kp ([] : List Nat) (World.drew w6)) ?_
    have h13 := h8.drew
    generalize World.drew w6 = w12 at h13 ⊢
    have hS14 := Kp.refl ([] : List Nat) w12
    refine AnyE.loadBox 0 9 2 24 b2 0 (.agg #[.int .i64 p0_0, .int .u8 p0_1, .int .u8 p0_2, .int .u16 p0_3, .int .i64 p0_4, .int .i64 p0_5]) [] h13 rfl (by kernel_rfl) hS14 rfl rfl (by kernel_rfl) (by kernel_rfl) ?_
    refine AnyE.pure 1 10 (.bool p1) (by kernel_rfl) hS14 (fun _ => by kernel_rfl) ?_
    obtain ⟨t17, hg16, h⟩ := of_bind h
    refine AnyE.call 2 11 (.int .i64 t17) 9 #[.agg #[.int .i64 p0_0, .int .u8 p0_1, .int .u8 p0_2, .int .u16 p0_3, .int .i64 p0_4, .int .i64 p0_5], .bool p1] (by kernel_rfl) hS14 (fun _ => by kernel_rfl) (fun w hk => times_Of_9_ok K (fun _ => False) w p0_0 p0_1 p0_2 p0_3 p0_4 p0_5 p1 (fun _ hf => hf.elim) ⟨(h13.atI [] rfl hk 0 rfl rfl).1, fun hf => hf.elim, (h13.atI [] rfl hk 0 rfl rfl).2.2⟩ ⟨(h13.atI [] rfl hk 1 rfl rfl).1, fun hf => hf.elim, (h13.atI [] rfl hk 1 rfl rfl).2.2⟩ hg16) ?_
    refine AnyE.loadBox 3 12 2 24 b2 0 (.agg #[.int .i64 p0_0, .int .u8 p0_1, .int .u8 p0_2, .int .u16 p0_3, .int .i64 p0_4, .int .i64 p0_5]) [] h13 rfl (by kernel_rfl) hS14 rfl rfl (by kernel_rfl) (by kernel_rfl) ?_
    refine AnyE.pure 4 13 (.bool p1) (by kernel_rfl) hS14 (fun _ => by kernel_rfl) ?_
    obtain ⟨t19, hg18, h⟩ := of_bind h
    refine AnyE.call 5 14 (.int .i64 t19) 10 #[.agg #[.int .i64 p0_0, .int .u8 p0_1, .int .u8 p0_2, .int .u16 p0_3, .int .i64 p0_4, .int .i64 p0_5], .bool p1] (by kernel_rfl) hS14 (fun _ => by kernel_rfl) (fun w hk => charabancref10_Of_10_ok K (fun _ => False) w p0_0 p0_1 p0_2 p0_3 p0_4 p0_5 p1 (fun _ hf => hf.elim) hg18) ?_
    refine AnyE.pure 6 15 (.bool (t17 == t19)) (by kernel_rfl) hS14 (fun _ => by kernel_rfl) ?_
    refine AnyE.pure 7 16 (.bool (t17 == t19)) (by kernel_rfl) hS14 (fun _ => by kernel_rfl) ?_
    rcases of_cond h with ⟨hc20, h⟩ | ⟨hc20, h⟩
    · skip
      refine AnyE.fix 16 true hc20 (by kernel_rfl) (by kernel_rfl) ?_
      refine AnyE.loadBox 8 17 2 24 b2 0 (.agg #[.int .i64 p0_0, .int .u8 p0_1, .int .u8 p0_2, .int .u16 p0_3, .int .i64 p0_4, .int .i64 p0_5]) [] h13 rfl (by kernel_rfl) hS14 rfl rfl (by kernel_rfl) (by kernel_rfl) ?_
      obtain ⟨t22, hg21, h⟩ := of_bind h
      refine AnyE.call 9 18 (.bool t22) 11 #[.agg #[.int .i64 p0_0, .int .u8 p0_1, .int .u8 p0_2, .int .u16 p0_3, .int .i64 p0_4, .int .i64 p0_5]] (by kernel_rfl) hS14 (fun _ => by kernel_rfl) (fun w hk => times_Asks_11_ok K (fun _ => False) w p0_0 p0_1 p0_2 p0_3 p0_4 p0_5 (fun _ hf => hf.elim) ⟨(h13.atI [] rfl hk 0 rfl rfl).1, fun hf => hf.elim, (h13.atI [] rfl hk 0 rfl rfl).2.2⟩ ⟨(h13.atI [] rfl hk 1 rfl rfl).1, fun hf => hf.elim, (h13.atI [] rfl hk 1 rfl rfl).2.2⟩ hg21) ?_
      refine AnyE.loadBox 10 19 2 24 b2 0 (.agg #[.int .i64 p0_0, .int .u8 p0_1, .int .u8 p0_2, .int .u16 p0_3, .int .i64 p0_4, .int .i64 p0_5]) [] h13 rfl (by kernel_rfl) hS14 rfl rfl (by kernel_rfl) (by kernel_rfl) ?_
      obtain ⟨t24, hg23, h⟩ := of_bind h
      refine AnyE.call 11 20 (.bool t24) 12 #[.agg #[.int .i64 p0_0, .int .u8 p0_1, .int .u8 p0_2, .int .u16 p0_3, .int .i64 p0_4, .int .i64 p0_5]] (by kernel_rfl) hS14 (fun _ => by kernel_rfl) (fun w hk => charabancref10_Asks_12_ok K (fun _ => False) w p0_0 p0_1 p0_2 p0_3 p0_4 p0_5 (fun _ hf => hf.elim) hg23) ?_
      refine AnyE.pure 12 21 (.bool (t22 == t24)) (by kernel_rfl) hS14 (fun _ => by kernel_rfl) ?_
      refine AnyE.pure 13 22 (.bool (t22 == t24)) (by kernel_rfl) hS14 (fun _ => by kernel_rfl) ?_
      refine AnyE.pure 14 4 (.bool (t22 == t24)) (by kernel_rfl) hS14 (fun _ => by kernel_rfl) ?_
      refine AnyE.done (by kernel_rfl) (fun w25 hu26 => ?_)
      have h27 := h13.call hu26
      refine RunsI.only [4] [(4, .bool (t22 == t24))] (by kernel_rfl) (by kernel_rfl) ?_
      refine RunsI.ret (.bool (t22 == t24)) (by kernel_rfl) (by kernel_rfl) ?_
      obtain rfl := Option.some.inj h
      exact ⟨rfl, h27.below⟩
    · skip
      refine AnyE.fix 16 false hc20 (by kernel_rfl) (by kernel_rfl) ?_
      refine AnyE.no 8 17 (by kernel_rfl) hS14 ?_
      refine AnyE.no 9 18 (by kernel_rfl) hS14 ?_
      refine AnyE.no 10 19 (by kernel_rfl) hS14 ?_
      refine AnyE.no 11 20 (by kernel_rfl) hS14 ?_
      refine AnyE.no 12 21 (by kernel_rfl) hS14 ?_
      refine AnyE.pure 13 22 (.bool false) (by kernel_rfl) hS14 (fun _ => by kernel_rfl) ?_
      refine AnyE.pure 14 4 (.bool false) (by kernel_rfl) hS14 (fun _ => by kernel_rfl) ?_
      refine AnyE.done (by kernel_rfl) (fun w28 hu29 => ?_)
      have h30 := h13.call hu29
      refine RunsI.only [4] [(4, .bool false)] (by kernel_rfl) (by kernel_rfl) ?_
      refine RunsI.ret (.bool false) (by kernel_rfl) (by kernel_rfl) ?_
      obtain rfl := Option.some.inj h
      exact ⟨rfl, h30.below⟩
end
end Go.Proofs.YtmcdkmakjjlcnaaDoor.Tim
