/- Functions of the program as plain Lean functions, each with the proof that the call comes to it; written by wip/eng.py. -/
import Derived.Test.YtajnhlkkbhobiaaDoorProg
import Derived.Test.YtajnhlkkbhobiaaDoorEngLib
import Derived.Test.YtajnhlkkbhobiaaDoorShelf
set_option linter.unusedVariables false
set_option linter.unusedSimpArgs false
set_option maxHeartbeats 4000000
namespace Go.Proofs.YtajnhlkkbhobiaaDoor.Cyc
open Go.RowKit Go.Eng
noncomputable def B10 : Code := (Tryd.f10.body).getD .skip
noncomputable def F10 : Fun Tryd.prog := ⟨10, Tryd.f10, B10, 54, Tryd.func10, by kernel_rfl, by kernel_rfl, [], none⟩
noncomputable def B11 : Code := (Tryd.f11.body).getD .skip
noncomputable def F11 : Fun Tryd.prog := ⟨11, Tryd.f11, B11, 63, Tryd.func11, by kernel_rfl, by kernel_rfl, [], none⟩
noncomputable def B12 : Code := (Tryd.f12.body).getD .skip
noncomputable def F12 : Fun Tryd.prog := ⟨12, Tryd.f12, B12, 67, Tryd.func12, by kernel_rfl, by kernel_rfl, [], none⟩
noncomputable def B13 : Code := (Tryd.f13.body).getD .skip
noncomputable def F13 : Fun Tryd.prog := ⟨13, Tryd.f13, B13, 10, Tryd.func13, by kernel_rfl, by kernel_rfl, [], none⟩
noncomputable def B14 : Code := (Tryd.f14.body).getD .skip
noncomputable def F14 : Fun Tryd.prog := ⟨14, Tryd.f14, B14, 24, Tryd.func14, by kernel_rfl, by kernel_rfl, [], none⟩
noncomputable def B15 : Code := (Tryd.f15.body).getD .skip
noncomputable def F15 : Fun Tryd.prog := ⟨15, Tryd.f15, B15, 24, Tryd.func15, by kernel_rfl, by kernel_rfl, [], none⟩
noncomputable def B16 : Code := (Tryd.f16.body).getD .skip
noncomputable def F16 : Fun Tryd.prog := ⟨16, Tryd.f16, B16, 12, Tryd.func16, by kernel_rfl, by kernel_rfl, [], none⟩
noncomputable def B17 : Code := (Tryd.f17.body).getD .skip
noncomputable def F17 : Fun Tryd.prog := ⟨17, Tryd.f17, B17, 13, Tryd.func17, by kernel_rfl, by kernel_rfl, [], none⟩
noncomputable def B18 : Code := (Tryd.f18.body).getD .skip
noncomputable def F18 : Fun Tryd.prog := ⟨18, Tryd.f18, B18, 24, Tryd.func18, by kernel_rfl, by kernel_rfl, [], none⟩
noncomputable def B19 : Code := (Tryd.f19.body).getD .skip
noncomputable def F19 : Fun Tryd.prog := ⟨19, Tryd.f19, B19, 17, Tryd.func19, by kernel_rfl, by kernel_rfl, [], none⟩
noncomputable def B20 : Code := (Tryd.f20.body).getD .skip
noncomputable def F20 : Fun Tryd.prog := ⟨20, Tryd.f20, B20, 26, Tryd.func20, by kernel_rfl, by kernel_rfl, [], none⟩
noncomputable def B21 : Code := (Tryd.f21.body).getD .skip
noncomputable def F21 : Fun Tryd.prog := ⟨21, Tryd.f21, B21, 22, Tryd.func21, by kernel_rfl, by kernel_rfl, [], none⟩
noncomputable def B22 : Code := (Tryd.f22.body).getD .skip
noncomputable def F22 : Fun Tryd.prog := ⟨22, Tryd.f22, B22, 14, Tryd.func22, by kernel_rfl, by kernel_rfl, [], none⟩
noncomputable def B42 : Code := (Tryd.f42.body).getD .skip
noncomputable def F42 : Fun Tryd.prog := ⟨42, Tryd.f42, B42, 6, Tryd.func42, by kernel_rfl, by kernel_rfl, [], none⟩
noncomputable def B43 : Code := (Tryd.f43.body).getD .skip
noncomputable def F43 : Fun Tryd.prog := ⟨43, Tryd.f43, B43, 61, Tryd.func43, by kernel_rfl, by kernel_rfl, [], none⟩
noncomputable def B54 : Code := (Tryd.f54.body).getD .skip
noncomputable def F54 : Fun Tryd.prog := ⟨54, Tryd.f54, B54, 27, Tryd.func54, by kernel_rfl, by kernel_rfl, [], none⟩
noncomputable def B58 : Code := (Tryd.f58.body).getD .skip
noncomputable def F58 : Fun Tryd.prog := ⟨58, Tryd.f58, B58, 57, Tryd.func58, by kernel_rfl, by kernel_rfl, [], none⟩
noncomputable def B59 : Code := (Tryd.f59.body).getD .skip
noncomputable def F59 : Fun Tryd.prog := ⟨59, Tryd.f59, B59, 36, Tryd.func59, by kernel_rfl, by kernel_rfl, [], none⟩
noncomputable def B60 : Code := (Tryd.f60.body).getD .skip
noncomputable def F60 : Fun Tryd.prog := ⟨60, Tryd.f60, B60, 31, Tryd.func60, by kernel_rfl, by kernel_rfl, [], none⟩
def tab_0 : List Int := [0, 2, 2, 2, 3, 3, 4, 0]
def en_0 : Int → List Value := fun x => [.int .i64 x]
def tab_1 : List Int := [0, 0, 0, 0, 1, 1, 2, 0]
def en_1 : Int → List Value := fun x => [.int .i64 x]
def tab_2 : List Int := [1, 10, 100, 1000, 10000, 100000, 1000000, 10000000, 100000000, 1000000000, 10000000000, 100000000000, 1000000000000, 10000000000000, 100000000000000, 1000000000000000, 10000000000000000, 100000000000000000, 1000000000000000000, 10000000000000000000]
def en_2 : Int → List Value := fun x => [.int .u64 x]

/-! ### charabanc/cycle.Sample (function 16) -/
section
def cycle_Sample_16.post (M0 : Nat → Prop) (w0 : World) (r : Int) : Ending → World → Prop := fun e w => e = .returned (.int .i64 r) ∧ Below w0.heap.size w0 w
def cycle_Sample_16.f (K : Nat) (p0 : Int) : Option Int := Let (fun (t2 : Bool) => cond t2 (some 0) (cond (inR p0 8) (some (rdD tab_0 p0)) none)) (fun j5 => cond (decide (p0 < 0)) (j5 true) (j5 (decide (p0 ≥ 8))))
set_option maxRecDepth 100000 in
theorem cycle_Sample_16_ok (K : Nat) (M0 : Nat → Prop) (w0 : World) (p0 : Int) (ho : ∀ b, M0 b → b < w0.heap.size) (hG0 : (gl 0 (tab_0.flatMap en_0)).ok w0 M0) {r : Int} (h : cycle_Sample_16.f K p0 = some r) :
    Calls Tryd.prog 16 #[.int .i64 p0] w0 (cycle_Sample_16.post M0 w0 r) := by
  unfold cycle_Sample_16.f at h
  have h0 : Holds M0 w0 w0 [] := Holds.start ho
  have h0g0 := h0.add (gl 0 (tab_0.flatMap en_0)) rfl ⟨hG0.1, fun hm => hG0.2.1 (hm.elim id (fun hm => absurd hm (by simp [mines, sl, gl]))), hG0.2.2⟩
  have h0 : Holds M0 w0 w0 [gl 0 (tab_0.flatMap en_0)] := h0g0
  refine calls_of F16 rfl [.int .i64 p0] (by kernel_rfl) ?_
  refine RunsI.go 1 [.c 1, .c 2] (by kernel_rfl) ?_
  refine RunsI.region (by kernel_rfl) ?_
  refine RegI.pure 1 [0] [(0, .int .i64 p0)] (by kernel_rfl) ?_
  refine RegI.done (by kernel_rfl) ?_
  refine RunsI.go 2 [.c 4, .c 5, .c 10] (by kernel_rfl) ?_
  refine RunsI.region (by kernel_rfl) ?_
  refine RegI.pure 3 [0, 5] [(0, .int .i64 p0), (5, .bool (decide (p0 < 0)))] (by kernel_rfl) ?_
  obtain ⟨j5, hJ6, h⟩ := of_let h
  have hj7 : ∀ (t2 : Bool) (w4 : World), j5 t2 = some r → Holds M0 w0 w4 [gl 0 (tab_0.flatMap en_0)] → RegI F16 4 [.c 5, .c 10] 6 [(0, .int .i64 p0), (8, .bool t2)] w4 (cycle_Sample_16.post M0 w0 r) := by
    intro t2 w4 h h3
    rw [hJ6] at h
    clear hJ6
    dsimp only at h
    refine RegI.done (by kernel_rfl) ?_
    rcases of_cond h with ⟨hc8, h⟩ | ⟨hc8, h⟩
    · skip
      refine RunsI.fix 8 true hc8 (by kernel_rfl) (by kernel_rfl) ?_
      refine RunsI.cond true 6 (by kernel_rfl) ?_
      refine RunsI.go 1 [.c 7, .c 8, .c 10] (by kernel_rfl) ?_
      refine RunsI.region (by kernel_rfl) ?_
      refine RegI.pure 1 [2] [(2, .int .i64 0)] (by kernel_rfl) ?_
      refine RegI.done (by kernel_rfl) ?_
      refine RunsI.ret (.int .i64 0) (by kernel_rfl) (by kernel_rfl) ?_
      obtain rfl := Option.some.inj h
      exact ⟨rfl, h3.below⟩
    · skip
      refine RunsI.fix 8 false hc8 (by kernel_rfl) (by kernel_rfl) ?_
      refine RunsI.cond false 9 (by kernel_rfl) ?_
      refine RunsI.go 1 [.c 10] (by kernel_rfl) ?_
      refine RunsI.go 1 [.c 11, .c 12] (by kernel_rfl) ?_
      refine RunsI.region (by kernel_rfl) ?_
      refine RegI.pure 1 [9] [(9, .int .i64 p0)] (by kernel_rfl) ?_
      obtain ⟨hc9, h⟩ := of_cond0 h
      refine RegI.op (by kernel_rfl) (OpE.run 10 (by kernel_rfl) (run_idxArr (T := 56) (b := 0) (o := 0) (ix := p0) (len := 8) (s := 1) (by kernel_rfl) (by kernel_rfl) hc9) ?_)
      refine RegI.op (by kernel_rfl) (OpE.loadTab 11 0 3 en_0 tab_0 0 1 p0 (.int .i64 (rdD tab_0 p0)) (o := 0 + (Int.toNat p0) * 1 + 0) h3 (by kernel_rfl) rfl (fun _ => rfl) (by kernel_rfl) (by omega) hc9 (fun _ => by kernel_rfl) ?_)
      refine RegI.pure 1 [2] [(2, .int .i64 (rdD tab_0 p0))] (by kernel_rfl) ?_
      refine RegI.done (by kernel_rfl) ?_
      refine RunsI.ret (.int .i64 (rdD tab_0 p0)) (by kernel_rfl) (by kernel_rfl) ?_
      obtain rfl := Option.some.inj h
      exact ⟨rfl, h3.below⟩
  clear hJ6
  rcases of_cond h with ⟨hc1, h⟩ | ⟨hc1, h⟩
  · skip
    refine RegI.fix 5 true hc1 (by kernel_rfl) (by kernel_rfl) ?_
    refine RegI.pure 3 [0, 8] [(0, .int .i64 p0), (8, .bool true)] (by kernel_rfl) ?_
    refine RegI.only [0, 8] [(0, .int .i64 p0), (8, .bool true)] (by kernel_rfl) (by kernel_rfl) ?_
    exact hj7 true w0 h (h0.pick [0] (by decide))
  · skip
    refine RegI.fix 5 false hc1 (by kernel_rfl) (by kernel_rfl) ?_
    refine RegI.pure 3 [0, 8] [(0, .int .i64 p0), (8, .bool (decide (p0 ≥ 8)))] (by kernel_rfl) ?_
    refine RegI.only [0, 8] [(0, .int .i64 p0), (8, .bool (decide (p0 ≥ 8)))] (by kernel_rfl) (by kernel_rfl) ?_
    exact hj7 (decide (p0 ≥ 8)) w0 h (h0.pick [0] (by decide))
end

/-! ### charabanc/cycle.Check (function 14) -/
section
def cycle_Check_14.post (M0 : Nat → Prop) (w0 : World) (r : Int) : Ending → World → Prop := fun e w => e = .returned (.int .i64 r) ∧ Below w0.heap.size w0 w
def cycle_Check_14.f (K : Nat) (p0_0 : Int) (p0_1 : Int) (p0_2 : Int) (p0_3 : Int) : Option Int := Let (fun (t27 : Bool) => cond t27 (some 1) (some 0)) (fun j30 => cond (decide (p0_0 < 1)) (j30 true) (cond (decide (p0_0 > 7)) (j30 true) ((cycle_Sample_16.f K p0_0).bind fun t19 => cond (decide (p0_3 ≤ t19)) (j30 true) (j30 (decide (p0_3 > 32))))))
set_option maxRecDepth 100000 in
theorem cycle_Check_14_ok (K : Nat) (M0 : Nat → Prop) (w0 : World) (p0_0 : Int) (p0_1 : Int) (p0_2 : Int) (p0_3 : Int) (ho : ∀ b, M0 b → b < w0.heap.size) (hG0 : (gl 0 (tab_0.flatMap en_0)).ok w0 M0) {r : Int} (h : cycle_Check_14.f K p0_0 p0_1 p0_2 p0_3 = some r) :
    Calls Tryd.prog 14 #[.agg #[.int .i64 p0_0, .int .u16 p0_1, .int .u8 p0_2, .int .i64 p0_3]] w0 (cycle_Check_14.post M0 w0 r) := by
  unfold cycle_Check_14.f at h
  have h0 : Holds M0 w0 w0 [] := Holds.start ho
  have h0g0 := h0.add (gl 0 (tab_0.flatMap en_0)) rfl ⟨hG0.1, fun hm => hG0.2.1 (hm.elim id (fun hm => absurd hm (by simp [mines, sl, gl]))), hG0.2.2⟩
  have h0 : Holds M0 w0 w0 [gl 0 (tab_0.flatMap en_0)] := h0g0
  refine calls_of F14 rfl [.agg #[.int .i64 p0_0, .int .u16 p0_1, .int .u8 p0_2, .int .i64 p0_3]] (by kernel_rfl) ?_
  refine RunsI.go 1 [.c 1, .c 2] (by kernel_rfl) ?_
  refine RunsI.region (by kernel_rfl) ?_
  refine RegI.op (by kernel_rfl) (OpE.box 1 24 [.int .i64 p0_0, .int .u16 p0_1, .int .u8 p0_2, .int .i64 p0_3] h0 (by kernel_rfl) (by kernel_rfl) ?_)
  intro w1 b2 h3 hb4 hn5
  refine RegI.pure 1 [1] [(1, .pointer (some ⟨b2, 0, none⟩))] (by kernel_rfl) ?_
  refine RegI.done (by kernel_rfl) ?_
  refine RunsI.go 2 [.c 4, .c 5, .c 10] (by kernel_rfl) ?_
  refine RunsI.any 21 (by kernel_rfl) (by kernel_rfl) (by kernel_rfl) (Kp ([] : List Nat) (World.drew w1)) ?_
  have h7 := h3.drew
  generalize World.drew w1 = w6 at h7 ⊢
  have hS8 := Kp.refl ([] : List Nat) w6
  refine AnyE.pure 0 3 (.pointer (some ⟨b2, 0, none⟩)) (by kernel_rfl) hS8 (fun _ => by kernel_rfl) ?_
  refine AnyE.loadBox 1 4 1 3 b2 0 (.int .i64 p0_0) [] h7 rfl (by kernel_rfl) hS8 rfl rfl (by kernel_rfl) (by kernel_rfl) ?_
  refine AnyE.pure 2 5 (.bool (decide (p0_0 < 1))) (by kernel_rfl) hS8 (fun _ => by kernel_rfl) ?_
  refine AnyE.pure 3 6 (.bool (decide (p0_0 < 1))) (by kernel_rfl) hS8 (fun _ => by kernel_rfl) ?_
  obtain ⟨j30, hJ31, h⟩ := of_let h
  have hj32 : ∀ (t27 : Bool) (w29 : World), j30 t27 = some r → Holds M0 w0 w29 [gl 0 (tab_0.flatMap en_0)] → RunsI F14 [.c 5, .c 10] [(23, .bool t27)] w29 (cycle_Check_14.post M0 w0 r) := by
    intro t27 w29 h h28
    rw [hJ31] at h
    clear hJ31
    dsimp only at h
    rcases of_cond h with ⟨hc33, h⟩ | ⟨hc33, h⟩
    · skip
      refine RunsI.fix 23 true hc33 (by kernel_rfl) (by kernel_rfl) ?_
      refine RunsI.cond true 6 (by kernel_rfl) ?_
      refine RunsI.go 1 [.c 7, .c 8, .c 10] (by kernel_rfl) ?_
      refine RunsI.region (by kernel_rfl) ?_
      refine RegI.pure 1 [2] [(2, .int .i64 1)] (by kernel_rfl) ?_
      refine RegI.done (by kernel_rfl) ?_
      refine RunsI.ret (.int .i64 1) (by kernel_rfl) (by kernel_rfl) ?_
      obtain rfl := Option.some.inj h
      exact ⟨rfl, h28.below⟩
    · skip
      refine RunsI.fix 23 false hc33 (by kernel_rfl) (by kernel_rfl) ?_
      refine RunsI.cond false 9 (by kernel_rfl) ?_
      refine RunsI.go 1 [.c 10] (by kernel_rfl) ?_
      refine RunsI.go 1 [.c 11, .c 12] (by kernel_rfl) ?_
      refine RunsI.region (by kernel_rfl) ?_
      refine RegI.pure 1 [2] [(2, .int .i64 0)] (by kernel_rfl) ?_
      refine RegI.done (by kernel_rfl) ?_
      refine RunsI.ret (.int .i64 0) (by kernel_rfl) (by kernel_rfl) ?_
      obtain rfl := Option.some.inj h
      exact ⟨rfl, h28.below⟩
  clear hJ31
  rcases of_cond h with ⟨hc10, h⟩ | ⟨hc10, h⟩
  · skip
    refine AnyE.fix 6 true hc10 (by kernel_rfl) (by kernel_rfl) ?_
    refine AnyE.no 4 7 (by kernel_rfl) hS8 ?_
    refine AnyE.no 5 8 (by kernel_rfl) hS8 ?_
    refine AnyE.no 6 9 (by kernel_rfl) hS8 ?_
    refine AnyE.pure 7 10 (.bool true) (by kernel_rfl) hS8 (fun _ => by kernel_rfl) ?_
    refine AnyE.pure 8 11 (.bool true) (by kernel_rfl) hS8 (fun _ => by kernel_rfl) ?_
    refine AnyE.no 9 12 (by kernel_rfl) hS8 ?_
    refine AnyE.no 10 13 (by kernel_rfl) hS8 ?_
    refine AnyE.no 11 14 (by kernel_rfl) hS8 ?_
    refine AnyE.no 12 15 (by kernel_rfl) hS8 ?_
    refine AnyE.no 13 16 (by kernel_rfl) hS8 ?_
    refine AnyE.no 14 17 (by kernel_rfl) hS8 ?_
    refine AnyE.pure 15 18 (.bool true) (by kernel_rfl) hS8 (fun _ => by kernel_rfl) ?_
    refine AnyE.pure 16 19 (.bool true) (by kernel_rfl) hS8 (fun _ => by kernel_rfl) ?_
    refine AnyE.no 17 20 (by kernel_rfl) hS8 ?_
    refine AnyE.no 18 21 (by kernel_rfl) hS8 ?_
    refine AnyE.no 19 22 (by kernel_rfl) hS8 ?_
    refine AnyE.pure 20 23 (.bool true) (by kernel_rfl) hS8 (fun _ => by kernel_rfl) ?_
    refine AnyE.done (by kernel_rfl) (fun w11 hu12 => ?_)
    have h13 := h7.call hu12
    refine RunsI.only [23] [(23, .bool true)] (by kernel_rfl) (by kernel_rfl) ?_
    refine RunsI.only [23] [(23, .bool true)] (by kernel_rfl) (by kernel_rfl) ?_
    exact hj32 true w11 h (h13.pick [0] (by decide))
  · skip
    refine AnyE.fix 6 false hc10 (by kernel_rfl) (by kernel_rfl) ?_
    refine AnyE.pure 4 7 (.pointer (some ⟨b2, 0, none⟩)) (by kernel_rfl) hS8 (fun _ => by kernel_rfl) ?_
    refine AnyE.loadBox 5 8 1 3 b2 0 (.int .i64 p0_0) [] h7 rfl (by kernel_rfl) hS8 rfl rfl (by kernel_rfl) (by kernel_rfl) ?_
    refine AnyE.pure 6 9 (.bool (decide (p0_0 > 7))) (by kernel_rfl) hS8 (fun _ => by kernel_rfl) ?_
    refine AnyE.pure 7 10 (.bool (decide (p0_0 > 7))) (by kernel_rfl) hS8 (fun _ => by kernel_rfl) ?_
    refine AnyE.pure 8 11 (.bool (decide (p0_0 > 7))) (by kernel_rfl) hS8 (fun _ => by kernel_rfl) ?_
    rcases of_cond h with ⟨hc14, h⟩ | ⟨hc14, h⟩
    · skip
      refine AnyE.fix 11 true hc14 (by kernel_rfl) (by kernel_rfl) ?_
      refine AnyE.no 9 12 (by kernel_rfl) hS8 ?_
      refine AnyE.no 10 13 (by kernel_rfl) hS8 ?_
      refine AnyE.no 11 14 (by kernel_rfl) hS8 ?_
      refine AnyE.no 12 15 (by kernel_rfl) hS8 ?_
      refine AnyE.no 13 16 (by kernel_rfl) hS8 ?_
      refine AnyE.no 14 17 (by kernel_rfl) hS8 ?_
      refine AnyE.pure 15 18 (.bool true) (by kernel_rfl) hS8 (fun _ => by kernel_rfl) ?_
      refine AnyE.pure 16 19 (.bool true) (by kernel_rfl) hS8 (fun _ => by kernel_rfl) ?_
      refine AnyE.no 17 20 (by kernel_rfl) hS8 ?_
      refine AnyE.no 18 21 (by kernel_rfl) hS8 ?_
      refine AnyE.no 19 22 (by kernel_rfl) hS8 ?_
      refine AnyE.pure 20 23 (.bool true) (by kernel_rfl) hS8 (fun _ => by kernel_rfl) ?_
      refine AnyE.done (by kernel_rfl) (fun w15 hu16 => ?_)
      have h17 := h7.call hu16
      refine RunsI.only [23] [(23, .bool true)] (by kernel_rfl) (by kernel_rfl) ?_
      refine RunsI.only [23] [(23, .bool true)] (by kernel_rfl) (by kernel_rfl) ?_
      exact hj32 true w15 h (h17.pick [0] (by decide))
    · skip
      refine AnyE.fix 11 false hc14 (by kernel_rfl) (by kernel_rfl) ?_
      refine AnyE.pure 9 12 (.pointer (some ⟨b2, 3, none⟩)) (by kernel_rfl) hS8 (fun _ => by kernel_rfl) ?_
      refine AnyE.loadBox 10 13 1 3 b2 3 (.int .i64 p0_3) [] h7 rfl (by kernel_rfl) hS8 rfl rfl (by kernel_rfl) (by kernel_rfl) ?_
      refine AnyE.pure 11 14 (.pointer (some ⟨b2, 0, none⟩)) (by kernel_rfl) hS8 (fun _ => by kernel_rfl) ?_
      refine AnyE.loadBox 12 15 1 3 b2 0 (.int .i64 p0_0) [] h7 rfl (by kernel_rfl) hS8 rfl rfl (by kernel_rfl) (by kernel_rfl) ?_
      obtain ⟨t19, hg18, h⟩ := of_bind h
      refine AnyE.call 13 16 (.int .i64 t19) 16 #[.int .i64 p0_0] (by kernel_rfl) hS8 (fun _ => by kernel_rfl) (fun w hk => cycle_Sample_16_ok K (fun _ => False) w p0_0 (fun _ hf => hf.elim) ⟨(h7.atI [] rfl hk 0 rfl rfl).1, fun hf => hf.elim, (h7.atI [] rfl hk 0 rfl rfl).2.2⟩ hg18) ?_
      refine AnyE.pure 14 17 (.bool (decide (p0_3 ≤ t19))) (by kernel_rfl) hS8 (fun _ => by kernel_rfl) ?_
      refine AnyE.pure 15 18 (.bool (decide (p0_3 ≤ t19))) (by kernel_rfl) hS8 (fun _ => by kernel_rfl) ?_
      refine AnyE.pure 16 19 (.bool (decide (p0_3 ≤ t19))) (by kernel_rfl) hS8 (fun _ => by kernel_rfl) ?_
      rcases of_cond h with ⟨hc20, h⟩ | ⟨hc20, h⟩
      · skip
        refine AnyE.fix 19 true hc20 (by kernel_rfl) (by kernel_rfl) ?_
        refine AnyE.no 17 20 (by kernel_rfl) hS8 ?_
        refine AnyE.no 18 21 (by kernel_rfl) hS8 ?_
        refine AnyE.no 19 22 (by kernel_rfl) hS8 ?_
        refine AnyE.pure 20 23 (.bool true) (by kernel_rfl) hS8 (fun _ => by kernel_rfl) ?_
        refine AnyE.done (by kernel_rfl) (fun w21 hu22 => ?_)
        have h23 := h7.call hu22
        refine RunsI.only [23] [(23, .bool true)] (by kernel_rfl) (by kernel_rfl) ?_
        refine RunsI.only [23] [(23, .bool true)] (by kernel_rfl) (by kernel_rfl) ?_
        exact hj32 true w21 h (h23.pick [0] (by decide))
      · skip
        refine AnyE.fix 19 false hc20 (by kernel_rfl) (by kernel_rfl) ?_
        refine AnyE.pure 17 20 (.pointer (some ⟨b2, 3, none⟩)) (by kernel_rfl) hS8 (fun _ => by kernel_rfl) ?_
        refine AnyE.loadBox 18 21 1 3 b2 3 (.int .i64 p0_3) [] h7 rfl (by kernel_rfl) hS8 rfl rfl (by kernel_rfl) (by kernel_rfl) ?_
        refine AnyE.pure 19 22 (.bool (decide (p0_3 > 32))) (by kernel_rfl) hS8 (fun _ => by kernel_rfl) ?_
        refine AnyE.pure 20 23 (.bool (decide (p0_3 > 32))) (by kernel_rfl) hS8 (fun _ => by kernel_rfl) ?_
        refine AnyE.done (by kernel_rfl) (fun w24 hu25 => ?_)
        have h26 := h7.call hu25
        refine RunsI.only [23] [(23, .bool (decide (p0_3 > 32)))] (by kernel_rfl) (by kernel_rfl) ?_
        refine RunsI.only [23] [(23, .bool (decide (p0_3 > 32)))] (by kernel_rfl) (by kernel_rfl) ?_
        exact hj32 (decide (p0_3 > 32)) w24 h (h26.pick [0] (by decide))
end

/-! ### charabanc/cycle.Tick (function 11) -/
section
def cycle_Tick_11.post (M0 : Nat → Prop) (w0 : World) (r : Int × Int × Int × Int × Int × Int × Bool × Bool) : Ending → World → Prop := fun e w => e = .returned (.tuple #[.agg #[.int .i64 r.1, .int .u16 r.2.1, .int .u8 r.2.2.1, .int .i64 r.2.2.2.1, .int .i64 r.2.2.2.2.1, .int .i64 r.2.2.2.2.2.1], .bool r.2.2.2.2.2.2.1, .bool r.2.2.2.2.2.2.2]) ∧ Below w0.heap.size w0 w
def cycle_Tick_11.f (K : Nat) (p0_0_0 : Int) (p0_0_1 : Int) (p0_0_2 : Int) (p0_0_3 : Int) (p0_1 : Int) (p0_2 : Int) (p1 : Bool) : Option (Int × Int × Int × Int × Int × Int × Bool × Bool) := (cycle_Check_14.f K p0_0_0 p0_0_1 p0_0_2 p0_0_3).bind fun t15 => Let (fun (t18 : Bool) => cond t18 (some (p0_0_0, p0_0_1, p0_0_2, p0_0_3, p0_1, p0_2, false, false)) ((cycle_Sample_16.f K p0_0_0).bind fun t32 => Let (fun (t34 : Bool) => cond t34 (some (p0_0_0, p0_0_1, p0_0_2, p0_0_3, p0_1, (IntKind.wrap .i64 (p0_2 + 1)), false, false)) (cond (decide (t32 > 0)) (some (p0_0_0, p0_0_1, p0_0_2, p0_0_3, (IntKind.wrap .i64 (p0_1 + 1)), p0_2, ((IntKind.wrap .i64 (p0_1 + 1)) == (IntKind.wrap .i64 (t32 + 1))), ((IntKind.wrap .i64 (p0_1 + 1)) == p0_0_3))) (some (p0_0_0, p0_0_1, p0_0_2, p0_0_3, (IntKind.wrap .i64 (p0_1 + 1)), p0_2, false, ((IntKind.wrap .i64 (p0_1 + 1)) == p0_0_3))))) (fun j37 => cond p1 (j37 (p0_1 == (IntKind.wrap .i64 (t32 - 1)))) (j37 false)))) (fun j21 => cond (t15 != 0) (j21 true) (cond (decide (p0_1 < 0)) (j21 true) (j21 (decide (p0_1 ≥ p0_0_3)))))
set_option maxRecDepth 100000 in
theorem cycle_Tick_11_ok (K : Nat) (M0 : Nat → Prop) (w0 : World) (p0_0_0 : Int) (p0_0_1 : Int) (p0_0_2 : Int) (p0_0_3 : Int) (p0_1 : Int) (p0_2 : Int) (p1 : Bool) (ho : ∀ b, M0 b → b < w0.heap.size) (hG0 : (gl 0 (tab_0.flatMap en_0)).ok w0 M0) {r : Int × Int × Int × Int × Int × Int × Bool × Bool} (h : cycle_Tick_11.f K p0_0_0 p0_0_1 p0_0_2 p0_0_3 p0_1 p0_2 p1 = some r) :
    Calls Tryd.prog 11 #[.agg #[.int .i64 p0_0_0, .int .u16 p0_0_1, .int .u8 p0_0_2, .int .i64 p0_0_3, .int .i64 p0_1, .int .i64 p0_2], .bool p1] w0 (cycle_Tick_11.post M0 w0 r) := by
  unfold cycle_Tick_11.f at h
  have h0 : Holds M0 w0 w0 [] := Holds.start ho
  have h0g0 := h0.add (gl 0 (tab_0.flatMap en_0)) rfl ⟨hG0.1, fun hm => hG0.2.1 (hm.elim id (fun hm => absurd hm (by simp [mines, sl, gl]))), hG0.2.2⟩
  have h0 : Holds M0 w0 w0 [gl 0 (tab_0.flatMap en_0)] := h0g0
  refine calls_of F11 rfl [.agg #[.int .i64 p0_0_0, .int .u16 p0_0_1, .int .u8 p0_0_2, .int .i64 p0_0_3, .int .i64 p0_1, .int .i64 p0_2], .bool p1] (by kernel_rfl) ?_
  refine RunsI.go 1 [.c 1, .c 2] (by kernel_rfl) ?_
  refine RunsI.region (by kernel_rfl) ?_
  refine RegI.op (by kernel_rfl) (OpE.box 2 26 [.int .i64 p0_0_0, .int .u16 p0_0_1, .int .u8 p0_0_2, .int .i64 p0_0_3, .int .i64 p0_1, .int .i64 p0_2] h0 (by kernel_rfl) (by kernel_rfl) ?_)
  intro w1 b2 h3 hb4 hn5
  refine RegI.op (by kernel_rfl) (OpE.box 4 26 [.int .i64 0, .int .u16 0, .int .u8 0, .int .i64 0, .int .i64 0, .int .i64 0] h3 (by kernel_rfl) (by kernel_rfl) ?_)
  intro w6 b7 h8 hb9 hn10
  refine RegI.pure 2 [1, 2, 4] [(1, .bool p1), (2, .pointer (some ⟨b2, 0, none⟩)), (4, .pointer (some ⟨b7, 0, none⟩))] (by kernel_rfl) ?_
  refine RegI.done (by kernel_rfl) ?_
  refine RunsI.go 2 [.c 4, .c 5, .c 10] (by kernel_rfl) ?_
  refine RunsI.region (by kernel_rfl) ?_
  refine RegI.pure 1 [1, 2, 4, 8] [(1, .bool p1), (2, .pointer (some ⟨b2, 0, none⟩)), (4, .pointer (some ⟨b7, 0, none⟩)), (8, .pointer (some ⟨b2, 0, none⟩))] (by kernel_rfl) ?_
  refine RegI.op (by kernel_rfl) (OpE.loadBox 9 1 24 b2 0 (.agg #[.int .i64 p0_0_0, .int .u16 p0_0_1, .int .u8 p0_0_2, .int .i64 p0_0_3]) h8 (by kernel_rfl) (by kernel_rfl) rfl (by kernel_rfl) ?_)
  obtain ⟨t15, hg14, h⟩ := of_bind h
  refine RegI.op (by kernel_rfl) (OpE.call 10 (by kernel_rfl) 14 #[.agg #[.int .i64 p0_0_0, .int .u16 p0_0_1, .int .u8 p0_0_2, .int .i64 p0_0_3]] (by kernel_rfl) ((cycle_Check_14_ok K _ w6  p0_0_0 p0_0_1 p0_0_2 p0_0_3 h8.old' (h8.get 0 rfl) hg14).mono ?_))
  rintro _ w11 ⟨rfl, hb12⟩
  refine ⟨_, rfl, ?_⟩
  have h13 := h8.call hb12
  refine RegI.pure 2 [1, 2, 4, 12] [(1, .bool p1), (2, .pointer (some ⟨b2, 0, none⟩)), (4, .pointer (some ⟨b7, 0, none⟩)), (12, .bool (t15 != 0))] (by kernel_rfl) ?_
  obtain ⟨j21, hJ22, h⟩ := of_let h
  have hj23 : ∀ (t18 : Bool) (w20 : World), j21 t18 = some r → Holds M0 w0 w20 [box b2 26 [.int .i64 p0_0_0, .int .u16 p0_0_1, .int .u8 p0_0_2, .int .i64 p0_0_3, .int .i64 p0_1, .int .i64 p0_2], box b7 26 [.int .i64 0, .int .u16 0, .int .u8 0, .int .i64 0, .int .i64 0, .int .i64 0], gl 0 (tab_0.flatMap en_0)] → RegI F11 4 [.c 5, .c 10] 17 [(1, .bool p1), (2, .pointer (some ⟨b2, 0, none⟩)), (4, .pointer (some ⟨b7, 0, none⟩)), (24, .bool t18)] w20 (cycle_Tick_11.post M0 w0 r) := by
    intro t18 w20 h h19
    rw [hJ22] at h
    clear hJ22
    dsimp only at h
    refine RegI.done (by kernel_rfl) ?_
    rcases of_cond h with ⟨hc24, h⟩ | ⟨hc24, h⟩
    · skip
      refine RunsI.fix 24 true hc24 (by kernel_rfl) (by kernel_rfl) ?_
      refine RunsI.cond true 6 (by kernel_rfl) ?_
      refine RunsI.go 1 [.c 7, .c 8, .c 10] (by kernel_rfl) ?_
      refine RunsI.region (by kernel_rfl) ?_
      refine RegI.op (by kernel_rfl) (OpE.loadBox 25 0 26 b2 0 (.agg #[.int .i64 p0_0_0, .int .u16 p0_0_1, .int .u8 p0_0_2, .int .i64 p0_0_3, .int .i64 p0_1, .int .i64 p0_2]) h19 (by kernel_rfl) (by kernel_rfl) rfl (by kernel_rfl) ?_)
      refine RegI.op (by kernel_rfl) (OpE.storeBox 1 26 b7 0 (.agg #[.int .i64 p0_0_0, .int .u16 p0_0_1, .int .u8 p0_0_2, .int .i64 p0_0_3, .int .i64 p0_1, .int .i64 p0_2]) [.int .i64 p0_0_0, .int .u16 p0_0_1, .int .u8 p0_0_2, .int .i64 p0_0_3, .int .i64 p0_1, .int .i64 p0_2] h19 (by kernel_rfl) (by kernel_rfl) rfl (by kernel_rfl) (by kernel_rfl) (by kernel_rfl) ?_)
      intro w25 h26 hk27
      refine RegI.pure 2 [4, 5, 6] [(4, .pointer (some ⟨b7, 0, none⟩)), (5, .bool false), (6, .bool false)] (by kernel_rfl) ?_
      refine RegI.done (by kernel_rfl) ?_
      refine RunsI.toRet (by kernel_rfl) ?_
      refine RetI.valW [.cell 4 26, .tmp 5, .tmp 6] [.agg #[.int .i64 p0_0_0, .int .u16 p0_0_1, .int .u8 p0_0_2, .int .i64 p0_0_3, .int .i64 p0_1, .int .i64 p0_2], .bool false, .bool false] (.tuple #[.agg #[.int .i64 p0_0_0, .int .u16 p0_0_1, .int .u8 p0_0_2, .int .i64 p0_0_3, .int .i64 p0_1, .int .i64 p0_2], .bool false, .bool false]) (by kernel_rfl) (ResAt.box 1 26 b7 0 h26 (by kernel_rfl) (by kernel_rfl) rfl (by kernel_rfl) (ResAt.tmp (by kernel_rfl) (by kernel_rfl) (ResAt.tmp (by kernel_rfl) (by kernel_rfl) rfl))) (by kernel_rfl) ?_
      obtain rfl := Option.some.inj h
      exact ⟨rfl, h26.below⟩
    · skip
      refine RunsI.fix 24 false hc24 (by kernel_rfl) (by kernel_rfl) ?_
      refine RunsI.cond false 9 (by kernel_rfl) ?_
      refine RunsI.go 1 [.c 10] (by kernel_rfl) ?_
      refine RunsI.go 1 [.c 11, .c 12] (by kernel_rfl) ?_
      refine RunsI.region (by kernel_rfl) ?_
      refine RegI.pure 2 [1, 2, 4, 27] [(1, .bool p1), (2, .pointer (some ⟨b2, 0, none⟩)), (4, .pointer (some ⟨b7, 0, none⟩)), (27, .pointer (some ⟨b2, 0, none⟩))] (by kernel_rfl) ?_
      refine RegI.op (by kernel_rfl) (OpE.loadBox 28 0 3 b2 0 (.int .i64 p0_0_0) h19 (by kernel_rfl) (by kernel_rfl) rfl (by kernel_rfl) ?_)
      obtain ⟨t32, hg31, h⟩ := of_bind h
      refine RegI.op (by kernel_rfl) (OpE.call 29 (by kernel_rfl) 16 #[.int .i64 p0_0_0] (by kernel_rfl) ((cycle_Sample_16_ok K _ w20  p0_0_0 h19.old' (h19.get 2 rfl) hg31).mono ?_))
      rintro _ w28 ⟨rfl, hb29⟩
      refine ⟨_, rfl, ?_⟩
      have h30 := h19.call hb29
      refine RegI.pure 1 [1, 2, 4, 7] [(1, .bool p1), (2, .pointer (some ⟨b2, 0, none⟩)), (4, .pointer (some ⟨b7, 0, none⟩)), (7, .int .i64 t32)] (by kernel_rfl) ?_
      refine RegI.done (by kernel_rfl) ?_
      refine RunsI.go 2 [.c 14, .c 15, .c 22] (by kernel_rfl) ?_
      refine RunsI.region (by kernel_rfl) ?_
      refine RegI.pure 2 [2, 4, 7, 31] [(2, .pointer (some ⟨b2, 0, none⟩)), (4, .pointer (some ⟨b7, 0, none⟩)), (7, .int .i64 t32), (31, .bool p1)] (by kernel_rfl) ?_
      obtain ⟨j37, hJ38, h⟩ := of_let h
      have hj39 : ∀ (t34 : Bool) (w36 : World), j37 t34 = some r → Holds M0 w0 w36 [box b2 26 [.int .i64 p0_0_0, .int .u16 p0_0_1, .int .u8 p0_0_2, .int .i64 p0_0_3, .int .i64 p0_1, .int .i64 p0_2], box b7 26 [.int .i64 0, .int .u16 0, .int .u8 0, .int .i64 0, .int .i64 0, .int .i64 0], gl 0 (tab_0.flatMap en_0)] → RegI F11 14 [.c 15, .c 22] 8 [(2, .pointer (some ⟨b2, 0, none⟩)), (4, .pointer (some ⟨b7, 0, none⟩)), (7, .int .i64 t32), (37, .bool t34)] w36 (cycle_Tick_11.post M0 w0 r) := by
        intro t34 w36 h h35
        rw [hJ38] at h
        clear hJ38
        dsimp only at h
        refine RegI.done (by kernel_rfl) ?_
        rcases of_cond h with ⟨hc40, h⟩ | ⟨hc40, h⟩
        · skip
          refine RunsI.fix 37 true hc40 (by kernel_rfl) (by kernel_rfl) ?_
          refine RunsI.cond true 16 (by kernel_rfl) ?_
          refine RunsI.go 1 [.c 17, .c 18, .c 22] (by kernel_rfl) ?_
          refine RunsI.region (by kernel_rfl) ?_
          refine RegI.pure 1 [2, 4, 38] [(2, .pointer (some ⟨b2, 0, none⟩)), (4, .pointer (some ⟨b7, 0, none⟩)), (38, .pointer (some ⟨b2, 5, none⟩))] (by kernel_rfl) ?_
          refine RegI.op (by kernel_rfl) (OpE.loadBox 39 0 3 b2 5 (.int .i64 p0_2) h35 (by kernel_rfl) (by kernel_rfl) rfl (by kernel_rfl) ?_)
          refine RegI.pure 2 [2, 4, 40, 41] [(2, .pointer (some ⟨b2, 0, none⟩)), (4, .pointer (some ⟨b7, 0, none⟩)), (40, .int .i64 (IntKind.wrap .i64 (p0_2 + 1))), (41, .pointer (some ⟨b2, 5, none⟩))] (by kernel_rfl) ?_
          refine RegI.op (by kernel_rfl) (OpE.storeBox 0 3 b2 5 (.int .i64 (IntKind.wrap .i64 (p0_2 + 1))) [.int .i64 p0_0_0, .int .u16 p0_0_1, .int .u8 p0_0_2, .int .i64 p0_0_3, .int .i64 p0_1, .int .i64 (IntKind.wrap .i64 (p0_2 + 1))] h35 (by kernel_rfl) (by kernel_rfl) rfl (by kernel_rfl) (by kernel_rfl) (by kernel_rfl) ?_)
          intro w41 h42 hk43
          refine RegI.done (by kernel_rfl) ?_
          refine RunsI.go 1 [.c 19, .c 20, .c 22] (by kernel_rfl) ?_
          refine RunsI.region (by kernel_rfl) ?_
          refine RegI.op (by kernel_rfl) (OpE.loadBox 42 0 26 b2 0 (.agg #[.int .i64 p0_0_0, .int .u16 p0_0_1, .int .u8 p0_0_2, .int .i64 p0_0_3, .int .i64 p0_1, .int .i64 (IntKind.wrap .i64 (p0_2 + 1))]) h42 (by kernel_rfl) (by kernel_rfl) rfl (by kernel_rfl) ?_)
          refine RegI.op (by kernel_rfl) (OpE.storeBox 1 26 b7 0 (.agg #[.int .i64 p0_0_0, .int .u16 p0_0_1, .int .u8 p0_0_2, .int .i64 p0_0_3, .int .i64 p0_1, .int .i64 (IntKind.wrap .i64 (p0_2 + 1))]) [.int .i64 p0_0_0, .int .u16 p0_0_1, .int .u8 p0_0_2, .int .i64 p0_0_3, .int .i64 p0_1, .int .i64 (IntKind.wrap .i64 (p0_2 + 1))] h42 (by kernel_rfl) (by kernel_rfl) rfl (by kernel_rfl) (by kernel_rfl) (by kernel_rfl) ?_)
          intro w44 h45 hk46
          refine RegI.pure 2 [4, 5, 6] [(4, .pointer (some ⟨b7, 0, none⟩)), (5, .bool false), (6, .bool false)] (by kernel_rfl) ?_
          refine RegI.done (by kernel_rfl) ?_
          refine RunsI.toRet (by kernel_rfl) ?_
          refine RetI.valW [.cell 4 26, .tmp 5, .tmp 6] [.agg #[.int .i64 p0_0_0, .int .u16 p0_0_1, .int .u8 p0_0_2, .int .i64 p0_0_3, .int .i64 p0_1, .int .i64 (IntKind.wrap .i64 (p0_2 + 1))], .bool false, .bool false] (.tuple #[.agg #[.int .i64 p0_0_0, .int .u16 p0_0_1, .int .u8 p0_0_2, .int .i64 p0_0_3, .int .i64 p0_1, .int .i64 (IntKind.wrap .i64 (p0_2 + 1))], .bool false, .bool false]) (by kernel_rfl) (ResAt.box 1 26 b7 0 h45 (by kernel_rfl) (by kernel_rfl) rfl (by kernel_rfl) (ResAt.tmp (by kernel_rfl) (by kernel_rfl) (ResAt.tmp (by kernel_rfl) (by kernel_rfl) rfl))) (by kernel_rfl) ?_
          obtain rfl := Option.some.inj h
          exact ⟨rfl, h45.below⟩
        · skip
          refine RunsI.fix 37 false hc40 (by kernel_rfl) (by kernel_rfl) ?_
          refine RunsI.cond false 21 (by kernel_rfl) ?_
          refine RunsI.go 1 [.c 22] (by kernel_rfl) ?_
          refine RunsI.go 1 [.c 23, .c 24] (by kernel_rfl) ?_
          refine RunsI.region (by kernel_rfl) ?_
          refine RegI.pure 1 [2, 4, 7, 43] [(2, .pointer (some ⟨b2, 0, none⟩)), (4, .pointer (some ⟨b7, 0, none⟩)), (7, .int .i64 t32), (43, .pointer (some ⟨b2, 4, none⟩))] (by kernel_rfl) ?_
          refine RegI.op (by kernel_rfl) (OpE.loadBox 44 0 3 b2 4 (.int .i64 p0_1) h35 (by kernel_rfl) (by kernel_rfl) rfl (by kernel_rfl) ?_)
          refine RegI.pure 2 [2, 4, 7, 45, 46] [(2, .pointer (some ⟨b2, 0, none⟩)), (4, .pointer (some ⟨b7, 0, none⟩)), (7, .int .i64 t32), (45, .int .i64 (IntKind.wrap .i64 (p0_1 + 1))), (46, .pointer (some ⟨b2, 4, none⟩))] (by kernel_rfl) ?_
          refine RegI.op (by kernel_rfl) (OpE.storeBox 0 3 b2 4 (.int .i64 (IntKind.wrap .i64 (p0_1 + 1))) [.int .i64 p0_0_0, .int .u16 p0_0_1, .int .u8 p0_0_2, .int .i64 p0_0_3, .int .i64 (IntKind.wrap .i64 (p0_1 + 1)), .int .i64 p0_2] h35 (by kernel_rfl) (by kernel_rfl) rfl (by kernel_rfl) (by kernel_rfl) (by kernel_rfl) ?_)
          intro w47 h48 hk49
          refine RegI.done (by kernel_rfl) ?_
          refine RunsI.go 1 [.c 25, .c 26] (by kernel_rfl) ?_
          refine RunsI.any 19 (by kernel_rfl) (by kernel_rfl) (by kernel_rfl) (Kp (mines (pick [box b2 26 [.int .i64 p0_0_0, .int .u16 p0_0_1, .int .u8 p0_0_2, .int .i64 p0_0_3, .int .i64 (IntKind.wrap .i64 (p0_1 + 1)), .int .i64 p0_2], box b7 26 [.int .i64 0, .int .u16 0, .int .u8 0, .int .i64 0, .int .i64 0, .int .i64 0], gl 0 (tab_0.flatMap en_0)] [1])) (World.drew w47)) ?_
          have h51 := h48.drew
          generalize World.drew w47 = w50 at h51 ⊢
          have hS52 := Kp.refl (mines (pick [box b2 26 [.int .i64 p0_0_0, .int .u16 p0_0_1, .int .u8 p0_0_2, .int .i64 p0_0_3, .int .i64 (IntKind.wrap .i64 (p0_1 + 1)), .int .i64 p0_2], box b7 26 [.int .i64 0, .int .u16 0, .int .u8 0, .int .i64 0, .int .i64 0, .int .i64 0], gl 0 (tab_0.flatMap en_0)] [1])) w50
          refine AnyE.loadBox 0 47 0 26 b2 0 (.agg #[.int .i64 p0_0_0, .int .u16 p0_0_1, .int .u8 p0_0_2, .int .i64 p0_0_3, .int .i64 (IntKind.wrap .i64 (p0_1 + 1)), .int .i64 p0_2]) [1] h51 rfl (by kernel_rfl) hS52 rfl rfl (by kernel_rfl) (by kernel_rfl) ?_
          refine AnyE.pure 1 48 (.int .i64 t32) (by kernel_rfl) hS52 (fun _ => by kernel_rfl) ?_
          refine AnyE.pure 2 49 (.bool (decide (t32 > 0))) (by kernel_rfl) hS52 (fun _ => by kernel_rfl) ?_
          refine AnyE.pure 3 50 (.bool (decide (t32 > 0))) (by kernel_rfl) hS52 (fun _ => by kernel_rfl) ?_
          rcases of_cond h with ⟨hc54, h⟩ | ⟨hc54, h⟩
          · skip
            refine AnyE.fix 50 true hc54 (by kernel_rfl) (by kernel_rfl) ?_
            refine AnyE.pure 4 51 (.pointer (some ⟨b2, 4, none⟩)) (by kernel_rfl) hS52 (fun _ => by kernel_rfl) ?_
            refine AnyE.loadBox 5 52 0 3 b2 4 (.int .i64 (IntKind.wrap .i64 (p0_1 + 1))) [1] h51 rfl (by kernel_rfl) hS52 rfl rfl (by kernel_rfl) (by kernel_rfl) ?_
            refine AnyE.pure 6 53 (.int .i64 t32) (by kernel_rfl) hS52 (fun _ => by kernel_rfl) ?_
            refine AnyE.pure 7 54 (.int .i64 (IntKind.wrap .i64 (t32 + 1))) (by kernel_rfl) hS52 (fun _ => by kernel_rfl) ?_
            refine AnyE.pure 8 55 (.bool ((IntKind.wrap .i64 (p0_1 + 1)) == (IntKind.wrap .i64 (t32 + 1)))) (by kernel_rfl) hS52 (fun _ => by kernel_rfl) ?_
            refine AnyE.pure 9 56 (.bool ((IntKind.wrap .i64 (p0_1 + 1)) == (IntKind.wrap .i64 (t32 + 1)))) (by kernel_rfl) hS52 (fun _ => by kernel_rfl) ?_
            refine AnyE.pure 10 57 (.pointer (some ⟨b2, 4, none⟩)) (by kernel_rfl) hS52 (fun _ => by kernel_rfl) ?_
            refine AnyE.loadBox 11 58 0 3 b2 4 (.int .i64 (IntKind.wrap .i64 (p0_1 + 1))) [1] h51 rfl (by kernel_rfl) hS52 rfl rfl (by kernel_rfl) (by kernel_rfl) ?_
            refine AnyE.pure 12 59 (.pointer (some ⟨b2, 0, none⟩)) (by kernel_rfl) hS52 (fun _ => by kernel_rfl) ?_
            refine AnyE.pure 13 60 (.pointer (some ⟨b2, 3, none⟩)) (by kernel_rfl) hS52 (fun _ => by kernel_rfl) ?_
            refine AnyE.loadBox 14 61 0 3 b2 3 (.int .i64 p0_0_3) [1] h51 rfl (by kernel_rfl) hS52 rfl rfl (by kernel_rfl) (by kernel_rfl) ?_
            refine AnyE.pure 15 62 (.bool ((IntKind.wrap .i64 (p0_1 + 1)) == p0_0_3)) (by kernel_rfl) hS52 (fun _ => by kernel_rfl) ?_
            refine AnyE.one 16 (by kernel_rfl) (fun w55 hu56 => ?_)
            have h57 := h51.call hu56
            have hS58 := hS52.up hu56
            refine OpE.storeBox 1 26 b7 0 (.agg #[.int .i64 p0_0_0, .int .u16 p0_0_1, .int .u8 p0_0_2, .int .i64 p0_0_3, .int .i64 (IntKind.wrap .i64 (p0_1 + 1)), .int .i64 p0_2]) [.int .i64 p0_0_0, .int .u16 p0_0_1, .int .u8 p0_0_2, .int .i64 p0_0_3, .int .i64 (IntKind.wrap .i64 (p0_1 + 1)), .int .i64 p0_2] h57 (by kernel_rfl) (by kernel_rfl) rfl (by kernel_rfl) (by kernel_rfl) (by kernel_rfl) ?_
            intro w59 h60 hk61
            have hS62 := hS58.trans hk61 (Kp.turned h51 [1] rfl 1 rfl rfl)
            refine ⟨hS62, ?_⟩
            refine AnyE.pure 17 5 (.bool ((IntKind.wrap .i64 (p0_1 + 1)) == (IntKind.wrap .i64 (t32 + 1)))) (by kernel_rfl) hS62 (fun _ => by kernel_rfl) ?_
            refine AnyE.pure 18 6 (.bool ((IntKind.wrap .i64 (p0_1 + 1)) == p0_0_3)) (by kernel_rfl) hS62 (fun _ => by kernel_rfl) ?_
            refine AnyE.done (by kernel_rfl) (fun w63 hu64 => ?_)
            have h65 := h60.call hu64
            refine RunsI.only [4, 5, 6] [(4, .pointer (some ⟨b7, 0, none⟩)), (5, .bool ((IntKind.wrap .i64 (p0_1 + 1)) == (IntKind.wrap .i64 (t32 + 1)))), (6, .bool ((IntKind.wrap .i64 (p0_1 + 1)) == p0_0_3))] (by kernel_rfl) (by kernel_rfl) ?_
            refine RunsI.toRet (by kernel_rfl) ?_
            refine RetI.valW [.cell 4 26, .tmp 5, .tmp 6] [.agg #[.int .i64 p0_0_0, .int .u16 p0_0_1, .int .u8 p0_0_2, .int .i64 p0_0_3, .int .i64 (IntKind.wrap .i64 (p0_1 + 1)), .int .i64 p0_2], .bool ((IntKind.wrap .i64 (p0_1 + 1)) == (IntKind.wrap .i64 (t32 + 1))), .bool ((IntKind.wrap .i64 (p0_1 + 1)) == p0_0_3)] (.tuple #[.agg #[.int .i64 p0_0_0, .int .u16 p0_0_1, .int .u8 p0_0_2, .int .i64 p0_0_3, .int .i64 (IntKind.wrap .i64 (p0_1 + 1)), .int .i64 p0_2], .bool ((IntKind.wrap .i64 (p0_1 + 1)) == (IntKind.wrap .i64 (t32 + 1))), .bool ((IntKind.wrap .i64 (p0_1 + 1)) == p0_0_3)]) (by kernel_rfl) (ResAt.box 1 26 b7 0 h65 (by kernel_rfl) (by kernel_rfl) rfl (by kernel_rfl) (ResAt.tmp (by kernel_rfl) (by kernel_rfl) (ResAt.tmp (by kernel_rfl) (by kernel_rfl) rfl))) (by kernel_rfl) ?_
            obtain rfl := Option.some.inj h
            exact ⟨rfl, h65.below⟩
          · skip
            refine AnyE.fix 50 false hc54 (by kernel_rfl) (by kernel_rfl) ?_
            refine AnyE.no 4 51 (by kernel_rfl) hS52 ?_
            refine AnyE.no 5 52 (by kernel_rfl) hS52 ?_
            refine AnyE.no 6 53 (by kernel_rfl) hS52 ?_
            refine AnyE.no 7 54 (by kernel_rfl) hS52 ?_
            refine AnyE.no 8 55 (by kernel_rfl) hS52 ?_
            refine AnyE.pure 9 56 (.bool false) (by kernel_rfl) hS52 (fun _ => by kernel_rfl) ?_
            refine AnyE.pure 10 57 (.pointer (some ⟨b2, 4, none⟩)) (by kernel_rfl) hS52 (fun _ => by kernel_rfl) ?_
            refine AnyE.loadBox 11 58 0 3 b2 4 (.int .i64 (IntKind.wrap .i64 (p0_1 + 1))) [1] h51 rfl (by kernel_rfl) hS52 rfl rfl (by kernel_rfl) (by kernel_rfl) ?_
            refine AnyE.pure 12 59 (.pointer (some ⟨b2, 0, none⟩)) (by kernel_rfl) hS52 (fun _ => by kernel_rfl) ?_
            refine AnyE.pure 13 60 (.pointer (some ⟨b2, 3, none⟩)) (by kernel_rfl) hS52 (fun _ => by kernel_rfl) ?_
            refine AnyE.loadBox 14 61 0 3 b2 3 (.int .i64 p0_0_3) [1] h51 rfl (by kernel_rfl) hS52 rfl rfl (by kernel_rfl) (by kernel_rfl) ?_
            refine AnyE.pure 15 62 (.bool ((IntKind.wrap .i64 (p0_1 + 1)) == p0_0_3)) (by kernel_rfl) hS52 (fun _ => by kernel_rfl) ?_
            refine AnyE.one 16 (by kernel_rfl) (fun w66 hu67 => ?_)
            have h68 := h51.call hu67
            have hS69 := hS52.up hu67
            refine OpE.storeBox 1 26 b7 0 (.agg #[.int .i64 p0_0_0, .int .u16 p0_0_1, .int .u8 p0_0_2, .int .i64 p0_0_3, .int .i64 (IntKind.wrap .i64 (p0_1 + 1)), .int .i64 p0_2]) [.int .i64 p0_0_0, .int .u16 p0_0_1, .int .u8 p0_0_2, .int .i64 p0_0_3, .int .i64 (IntKind.wrap .i64 (p0_1 + 1)), .int .i64 p0_2] h68 (by kernel_rfl) (by kernel_rfl) rfl (by kernel_rfl) (by kernel_rfl) (by kernel_rfl) ?_
            intro w70 h71 hk72
            have hS73 := hS69.trans hk72 (Kp.turned h51 [1] rfl 1 rfl rfl)
            refine ⟨hS73, ?_⟩
            refine AnyE.pure 17 5 (.bool false) (by kernel_rfl) hS73 (fun _ => by kernel_rfl) ?_
            refine AnyE.pure 18 6 (.bool ((IntKind.wrap .i64 (p0_1 + 1)) == p0_0_3)) (by kernel_rfl) hS73 (fun _ => by kernel_rfl) ?_
            refine AnyE.done (by kernel_rfl) (fun w74 hu75 => ?_)
            have h76 := h71.call hu75
            refine RunsI.only [4, 5, 6] [(4, .pointer (some ⟨b7, 0, none⟩)), (5, .bool false), (6, .bool ((IntKind.wrap .i64 (p0_1 + 1)) == p0_0_3))] (by kernel_rfl) (by kernel_rfl) ?_
            refine RunsI.toRet (by kernel_rfl) ?_
            refine RetI.valW [.cell 4 26, .tmp 5, .tmp 6] [.agg #[.int .i64 p0_0_0, .int .u16 p0_0_1, .int .u8 p0_0_2, .int .i64 p0_0_3, .int .i64 (IntKind.wrap .i64 (p0_1 + 1)), .int .i64 p0_2], .bool false, .bool ((IntKind.wrap .i64 (p0_1 + 1)) == p0_0_3)] (.tuple #[.agg #[.int .i64 p0_0_0, .int .u16 p0_0_1, .int .u8 p0_0_2, .int .i64 p0_0_3, .int .i64 (IntKind.wrap .i64 (p0_1 + 1)), .int .i64 p0_2], .bool false, .bool ((IntKind.wrap .i64 (p0_1 + 1)) == p0_0_3)]) (by kernel_rfl) (ResAt.box 1 26 b7 0 h76 (by kernel_rfl) (by kernel_rfl) rfl (by kernel_rfl) (ResAt.tmp (by kernel_rfl) (by kernel_rfl) (ResAt.tmp (by kernel_rfl) (by kernel_rfl) rfl))) (by kernel_rfl) ?_
            obtain rfl := Option.some.inj h
            exact ⟨rfl, h76.below⟩
      clear hJ38
      rcases of_cond h with ⟨hc33, h⟩ | ⟨hc33, h⟩
      · skip
        refine RegI.fix 31 true hc33 (by kernel_rfl) (by kernel_rfl) ?_
        refine RegI.pure 1 [2, 4, 7, 31, 32] [(2, .pointer (some ⟨b2, 0, none⟩)), (4, .pointer (some ⟨b7, 0, none⟩)), (7, .int .i64 t32), (31, .bool true), (32, .pointer (some ⟨b2, 4, none⟩))] (by kernel_rfl) ?_
        refine RegI.op (by kernel_rfl) (OpE.loadBox 33 0 3 b2 4 (.int .i64 p0_1) h30 (by kernel_rfl) (by kernel_rfl) rfl (by kernel_rfl) ?_)
        refine RegI.pure 4 [2, 4, 7, 37] [(2, .pointer (some ⟨b2, 0, none⟩)), (4, .pointer (some ⟨b7, 0, none⟩)), (7, .int .i64 t32), (37, .bool (p0_1 == (IntKind.wrap .i64 (t32 - 1))))] (by kernel_rfl) ?_
        refine RegI.only [2, 4, 7, 37] [(2, .pointer (some ⟨b2, 0, none⟩)), (4, .pointer (some ⟨b7, 0, none⟩)), (7, .int .i64 t32), (37, .bool (p0_1 == (IntKind.wrap .i64 (t32 - 1))))] (by kernel_rfl) (by kernel_rfl) ?_
        exact hj39 (p0_1 == (IntKind.wrap .i64 (t32 - 1))) w28 h (h30.pick [0, 1, 2] (by decide))
      · skip
        refine RegI.fix 31 false hc33 (by kernel_rfl) (by kernel_rfl) ?_
        refine RegI.pure 6 [2, 4, 7, 37] [(2, .pointer (some ⟨b2, 0, none⟩)), (4, .pointer (some ⟨b7, 0, none⟩)), (7, .int .i64 t32), (37, .bool false)] (by kernel_rfl) ?_
        refine RegI.only [2, 4, 7, 37] [(2, .pointer (some ⟨b2, 0, none⟩)), (4, .pointer (some ⟨b7, 0, none⟩)), (7, .int .i64 t32), (37, .bool false)] (by kernel_rfl) (by kernel_rfl) ?_
        exact hj39 false w28 h (h30.pick [0, 1, 2] (by decide))
  clear hJ22
  rcases of_cond h with ⟨hc16, h⟩ | ⟨hc16, h⟩
  · skip
    refine RegI.fix 12 true hc16 (by kernel_rfl) (by kernel_rfl) ?_
    refine RegI.pure 12 [1, 2, 4, 24] [(1, .bool p1), (2, .pointer (some ⟨b2, 0, none⟩)), (4, .pointer (some ⟨b7, 0, none⟩)), (24, .bool true)] (by kernel_rfl) ?_
    refine RegI.only [1, 2, 4, 24] [(1, .bool p1), (2, .pointer (some ⟨b2, 0, none⟩)), (4, .pointer (some ⟨b7, 0, none⟩)), (24, .bool true)] (by kernel_rfl) (by kernel_rfl) ?_
    exact hj23 true w11 h (h13.pick [1, 2, 0] (by decide))
  · skip
    refine RegI.fix 12 false hc16 (by kernel_rfl) (by kernel_rfl) ?_
    refine RegI.pure 1 [1, 2, 4, 12, 13] [(1, .bool p1), (2, .pointer (some ⟨b2, 0, none⟩)), (4, .pointer (some ⟨b7, 0, none⟩)), (12, .bool false), (13, .pointer (some ⟨b2, 4, none⟩))] (by kernel_rfl) ?_
    refine RegI.op (by kernel_rfl) (OpE.loadBox 14 1 3 b2 4 (.int .i64 p0_1) h13 (by kernel_rfl) (by kernel_rfl) rfl (by kernel_rfl) ?_)
    refine RegI.pure 3 [1, 2, 4, 17] [(1, .bool p1), (2, .pointer (some ⟨b2, 0, none⟩)), (4, .pointer (some ⟨b7, 0, none⟩)), (17, .bool (decide (p0_1 < 0)))] (by kernel_rfl) ?_
    rcases of_cond h with ⟨hc17, h⟩ | ⟨hc17, h⟩
    · skip
      refine RegI.fix 17 true hc17 (by kernel_rfl) (by kernel_rfl) ?_
      refine RegI.pure 7 [1, 2, 4, 24] [(1, .bool p1), (2, .pointer (some ⟨b2, 0, none⟩)), (4, .pointer (some ⟨b7, 0, none⟩)), (24, .bool true)] (by kernel_rfl) ?_
      refine RegI.only [1, 2, 4, 24] [(1, .bool p1), (2, .pointer (some ⟨b2, 0, none⟩)), (4, .pointer (some ⟨b7, 0, none⟩)), (24, .bool true)] (by kernel_rfl) (by kernel_rfl) ?_
      exact hj23 true w11 h (h13.pick [1, 2, 0] (by decide))
    · skip
      refine RegI.fix 17 false hc17 (by kernel_rfl) (by kernel_rfl) ?_
      refine RegI.pure 1 [1, 2, 4, 17, 18] [(1, .bool p1), (2, .pointer (some ⟨b2, 0, none⟩)), (4, .pointer (some ⟨b7, 0, none⟩)), (17, .bool false), (18, .pointer (some ⟨b2, 4, none⟩))] (by kernel_rfl) ?_
      refine RegI.op (by kernel_rfl) (OpE.loadBox 19 1 3 b2 4 (.int .i64 p0_1) h13 (by kernel_rfl) (by kernel_rfl) rfl (by kernel_rfl) ?_)
      refine RegI.pure 2 [1, 2, 4, 17, 19, 21] [(1, .bool p1), (2, .pointer (some ⟨b2, 0, none⟩)), (4, .pointer (some ⟨b7, 0, none⟩)), (17, .bool false), (19, .int .i64 p0_1), (21, .pointer (some ⟨b2, 3, none⟩))] (by kernel_rfl) ?_
      refine RegI.op (by kernel_rfl) (OpE.loadBox 22 1 3 b2 3 (.int .i64 p0_0_3) h13 (by kernel_rfl) (by kernel_rfl) rfl (by kernel_rfl) ?_)
      refine RegI.pure 2 [1, 2, 4, 24] [(1, .bool p1), (2, .pointer (some ⟨b2, 0, none⟩)), (4, .pointer (some ⟨b7, 0, none⟩)), (24, .bool (decide (p0_1 ≥ p0_0_3)))] (by kernel_rfl) ?_
      refine RegI.only [1, 2, 4, 24] [(1, .bool p1), (2, .pointer (some ⟨b2, 0, none⟩)), (4, .pointer (some ⟨b7, 0, none⟩)), (24, .bool (decide (p0_1 ≥ p0_0_3)))] (by kernel_rfl) (by kernel_rfl) ?_
      exact hj23 (decide (p0_1 ≥ p0_0_3)) w11 h (h13.pick [1, 2, 0] (by decide))
end

/-! ### strconv.Itoa (function 51) -/
section
def strconv_Itoa_51.post (M0 : Nat → Prop) (w0 : World) (r : ByteArray) : Ending → World → Prop := fun e w => e = .returned (.string r) ∧ Below w0.heap.size w0 w
def strconv_Itoa_51.f (K : Nat) (p0 : Int) : Option ByteArray := cond (in64 p0) (some (⟨(Lib.itoa p0).toArray⟩ : ByteArray)) none
theorem strconv_Itoa_51_ok (K : Nat) (M0 : Nat → Prop) (w0 : World) (p0 : Int) (ho : ∀ b, M0 b → b < w0.heap.size) (hG2 : (gl 2 (tab_2.flatMap en_2)).ok w0 M0) {r : ByteArray} (h : strconv_Itoa_51.f K p0 = some r) : Calls Tryd.prog 51 #[.int .i64 p0] w0 (strconv_Itoa_51.post M0 w0 r) := by
  obtain ⟨hc, h⟩ := of_cond0 h
  obtain rfl := Option.some.inj h
  refine (Tryd.strconv_Itoa p0 (in64_l hc) (in64_r hc) w0 (tabIs_of_gl hG2 (by kernel_rfl) (by kernel_rfl))).mono ?_
  rintro e w' ⟨rfl, k, os, rfl⟩
  exact ⟨rfl, Lib.below_grow _ _ (Nat.le_refl _) _ _⟩
end

/-! ### charabanc/cycle.name (function 59) -/
section
def cycle_name_59.post (M0 : Nat → Prop) (w0 : World) (r : ByteArray) : Ending → World → Prop := fun e w => e = .returned (.string r) ∧ Below w0.heap.size w0 w
def cycle_name_59.f (K : Nat) (p0 : Int) (p1 : Int) : Option ByteArray := cond (inR p0 8) ((cycle_Sample_16.f K p0).bind fun t6 => Let (fun (t8 : Bool) => Let (fun (t23 : Int) => (strconv_Itoa_51.f K t23).bind fun t33 => cond (mayCat (⟨#[84]⟩ : ByteArray).size t33.size) (some ((⟨#[84]⟩ : ByteArray) ++ t33)) none) (fun j26 => cond t8 (j26 (IntKind.wrap .i64 (p1 - (rdD tab_1 p0)))) (Let (fun (t16 : Bool) => cond t16 (some (⟨#[84, 87]⟩ : ByteArray)) (j26 p1)) (fun j19 => cond (decide (p1 > (IntKind.wrap .i64 (t6 - (rdD tab_1 p0))))) (j19 (decide (t6 > 0))) (j19 false))))) (fun j11 => cond (decide (p1 > t6)) (j11 (decide (t6 > 0))) (j11 false))) none
set_option maxRecDepth 100000 in
theorem cycle_name_59_ok (K : Nat) (M0 : Nat → Prop) (w0 : World) (p0 : Int) (p1 : Int) (ho : ∀ b, M0 b → b < w0.heap.size) (hG0 : (gl 0 (tab_0.flatMap en_0)).ok w0 M0) (hG1 : (gl 1 (tab_1.flatMap en_1)).ok w0 M0) (hG2 : (gl 2 (tab_2.flatMap en_2)).ok w0 M0) {r : ByteArray} (h : cycle_name_59.f K p0 p1 = some r) :
    Calls Tryd.prog 59 #[.int .i64 p0, .int .i64 p1] w0 (cycle_name_59.post M0 w0 r) := by
  unfold cycle_name_59.f at h
  have h0 : Holds M0 w0 w0 [] := Holds.start ho
  have h0g0 := h0.add (gl 0 (tab_0.flatMap en_0)) rfl ⟨hG0.1, fun hm => hG0.2.1 (hm.elim id (fun hm => absurd hm (by simp [mines, sl, gl]))), hG0.2.2⟩
  have h0g1 := h0g0.add (gl 1 (tab_1.flatMap en_1)) rfl ⟨hG1.1, fun hm => hG1.2.1 (hm.elim id (fun hm => absurd hm (by simp [mines, sl, gl]))), hG1.2.2⟩
  have h0g2 := h0g1.add (gl 2 (tab_2.flatMap en_2)) rfl ⟨hG2.1, fun hm => hG2.2.1 (hm.elim id (fun hm => absurd hm (by simp [mines, sl, gl]))), hG2.2.2⟩
  have h0 : Holds M0 w0 w0 [gl 0 (tab_0.flatMap en_0), gl 1 (tab_1.flatMap en_1), gl 2 (tab_2.flatMap en_2)] := h0g2
  refine calls_of F59 rfl [.int .i64 p0, .int .i64 p1] (by kernel_rfl) ?_
  refine RunsI.go 1 [.c 1, .c 2] (by kernel_rfl) ?_
  refine RunsI.region (by kernel_rfl) ?_
  refine RegI.pure 1 [0, 1] [(0, .int .i64 p0), (1, .int .i64 p1)] (by kernel_rfl) ?_
  refine RegI.done (by kernel_rfl) ?_
  refine RunsI.go 1 [.c 3, .c 4] (by kernel_rfl) ?_
  refine RunsI.region (by kernel_rfl) ?_
  refine RegI.pure 1 [0, 1, 7] [(0, .int .i64 p0), (1, .int .i64 p1), (7, .int .i64 p0)] (by kernel_rfl) ?_
  obtain ⟨hc1, h⟩ := of_cond0 h
  refine RegI.op (by kernel_rfl) (OpE.run 8 (by kernel_rfl) (run_idxArr (T := 56) (b := 1) (o := 0) (ix := p0) (len := 8) (s := 1) (by kernel_rfl) (by kernel_rfl) hc1) ?_)
  refine RegI.op (by kernel_rfl) (OpE.loadTab 9 1 3 en_1 tab_1 0 1 p0 (.int .i64 (rdD tab_1 p0)) (o := 0 + (Int.toNat p0) * 1 + 0) h0 (by kernel_rfl) rfl (fun _ => rfl) (by kernel_rfl) (by omega) hc1 (fun _ => by kernel_rfl) ?_)
  refine RegI.pure 1 [0, 1, 5] [(0, .int .i64 p0), (1, .int .i64 p1), (5, .int .i64 (rdD tab_1 p0))] (by kernel_rfl) ?_
  refine RegI.done (by kernel_rfl) ?_
  refine RunsI.go 2 [.c 6, .c 7, .c 19] (by kernel_rfl) ?_
  refine RunsI.region (by kernel_rfl) ?_
  refine RegI.pure 1 [1, 5, 10] [(1, .int .i64 p1), (5, .int .i64 (rdD tab_1 p0)), (10, .int .i64 p0)] (by kernel_rfl) ?_
  obtain ⟨t6, hg5, h⟩ := of_bind h
  refine RegI.op (by kernel_rfl) (OpE.call 11 (by kernel_rfl) 16 #[.int .i64 p0] (by kernel_rfl) ((cycle_Sample_16_ok K _ w0  p0 h0.old' (h0.get 0 rfl) hg5).mono ?_))
  rintro _ w2 ⟨rfl, hb3⟩
  refine ⟨_, rfl, ?_⟩
  have h4 := h0.call hb3
  refine RegI.pure 1 [1, 5, 6] [(1, .int .i64 p1), (5, .int .i64 (rdD tab_1 p0)), (6, .int .i64 t6)] (by kernel_rfl) ?_
  refine RegI.done (by kernel_rfl) ?_
  refine RunsI.go 2 [.c 9, .c 10, .blk 0, .c 19] (by kernel_rfl) ?_
  refine RunsI.region (by kernel_rfl) ?_
  refine RegI.pure 4 [1, 5, 6, 16] [(1, .int .i64 p1), (5, .int .i64 (rdD tab_1 p0)), (6, .int .i64 t6), (16, .bool (decide (p1 > t6)))] (by kernel_rfl) ?_
  obtain ⟨j11, hJ12, h⟩ := of_let h
  have hj13 : ∀ (t8 : Bool) (w10 : World), j11 t8 = some r → Holds M0 w0 w10 [gl 0 (tab_0.flatMap en_0), gl 1 (tab_1.flatMap en_1), gl 2 (tab_2.flatMap en_2)] → RegI F59 9 [.c 10, .blk 0, .c 19] 8 [(1, .int .i64 p1), (5, .int .i64 (rdD tab_1 p0)), (6, .int .i64 t6), (12, .bool t8)] w10 (cycle_name_59.post M0 w0 r) := by
    intro t8 w10 h h9
    rw [hJ12] at h
    clear hJ12
    dsimp only at h
    refine RegI.done (by kernel_rfl) ?_
    obtain ⟨j26, hJ27, h⟩ := of_let h
    have hj28 : ∀ (t23 : Int) (w25 : World), j26 t23 = some r → Holds M0 w0 w25 [gl 0 (tab_0.flatMap en_0), gl 1 (tab_1.flatMap en_1), gl 2 (tab_2.flatMap en_2)] → RunsI F59 [.blk 0, .c 19] [(1, .int .i64 t23)] w25 (cycle_name_59.post M0 w0 r) := by
      intro t23 w25 h h24
      rw [hJ27] at h
      clear hJ27
      dsimp only at h
      refine RunsI.go 2 [.c 20, .c 21] (by kernel_rfl) ?_
      refine RunsI.region (by kernel_rfl) ?_
      refine RegI.pure 1 [33] [(33, .int .i64 t23)] (by kernel_rfl) ?_
      obtain ⟨t33, hg32, h⟩ := of_bind h
      refine RegI.op (by kernel_rfl) (OpE.call 34 (by kernel_rfl) 51 #[.int .i64 t23] (by kernel_rfl) ((strconv_Itoa_51_ok K _ w25  t23 h24.old' (h24.get 2 rfl) hg32).mono ?_))
      rintro _ w29 ⟨rfl, hb30⟩
      refine ⟨_, rfl, ?_⟩
      have h31 := h24.call hb30
      obtain ⟨hc34, h⟩ := of_cond0 h
      refine RegI.op (by kernel_rfl) (OpE.run 35 (by kernel_rfl) (run_cat (a := (⟨#[84]⟩ : ByteArray)) (b := t33) (by kernel_rfl) hc34) ?_)
      refine RegI.pure 1 [4] [(4, .string ((⟨#[84]⟩ : ByteArray) ++ t33))] (by kernel_rfl) ?_
      refine RegI.done (by kernel_rfl) ?_
      refine RunsI.ret (.string ((⟨#[84]⟩ : ByteArray) ++ t33)) (by kernel_rfl) (by kernel_rfl) ?_
      obtain rfl := Option.some.inj h
      exact ⟨rfl, h31.below⟩
    clear hJ27
    rcases of_cond h with ⟨hc14, h⟩ | ⟨hc14, h⟩
    · skip
      refine RunsI.fix 12 true hc14 (by kernel_rfl) (by kernel_rfl) ?_
      refine RunsI.cond true 11 (by kernel_rfl) ?_
      refine RunsI.region (by kernel_rfl) ?_
      refine RegI.pure 4 [1] [(1, .int .i64 (IntKind.wrap .i64 (p1 - (rdD tab_1 p0))))] (by kernel_rfl) ?_
      refine RegI.done (by kernel_rfl) ?_
      refine RunsI.only [1] [(1, .int .i64 (IntKind.wrap .i64 (p1 - (rdD tab_1 p0))))] (by kernel_rfl) (by kernel_rfl) ?_
      exact hj28 (IntKind.wrap .i64 (p1 - (rdD tab_1 p0))) w10 h (h9.pick [0, 1, 2] (by decide))
    · skip
      refine RunsI.fix 12 false hc14 (by kernel_rfl) (by kernel_rfl) ?_
      refine RunsI.cond false 12 (by kernel_rfl) ?_
      refine RunsI.go 1 [.c 13, .c 14, .blk 0, .c 19] (by kernel_rfl) ?_
      refine RunsI.region (by kernel_rfl) ?_
      refine RegI.pure 6 [1, 6, 29] [(1, .int .i64 p1), (6, .int .i64 t6), (29, .bool (decide (p1 > (IntKind.wrap .i64 (t6 - (rdD tab_1 p0))))))] (by kernel_rfl) ?_
      obtain ⟨j19, hJ20, h⟩ := of_let h
      have hj21 : ∀ (t16 : Bool) (w18 : World), j19 t16 = some r → Holds M0 w0 w18 [gl 0 (tab_0.flatMap en_0), gl 1 (tab_1.flatMap en_1), gl 2 (tab_2.flatMap en_2)] → RegI F59 13 [.c 14, .blk 0, .c 19] 10 [(1, .int .i64 p1), (23, .bool t16)] w18 (cycle_name_59.post M0 w0 r) := by
        intro t16 w18 h h17
        rw [hJ20] at h
        clear hJ20
        dsimp only at h
        refine RegI.done (by kernel_rfl) ?_
        rcases of_cond h with ⟨hc22, h⟩ | ⟨hc22, h⟩
        · skip
          refine RunsI.fix 23 true hc22 (by kernel_rfl) (by kernel_rfl) ?_
          refine RunsI.cond true 15 (by kernel_rfl) ?_
          refine RunsI.go 1 [.c 16, .c 17, .blk 0, .c 19] (by kernel_rfl) ?_
          refine RunsI.region (by kernel_rfl) ?_
          refine RegI.pure 1 [4] [(4, .string (⟨#[84, 87]⟩ : ByteArray))] (by kernel_rfl) ?_
          refine RegI.done (by kernel_rfl) ?_
          refine RunsI.ret (.string (⟨#[84, 87]⟩ : ByteArray)) (by kernel_rfl) (by kernel_rfl) ?_
          obtain rfl := Option.some.inj h
          exact ⟨rfl, h17.below⟩
        · skip
          refine RunsI.fix 23 false hc22 (by kernel_rfl) (by kernel_rfl) ?_
          refine RunsI.cond false 18 (by kernel_rfl) ?_
          refine RunsI.go 1 [.blk 0, .c 19] (by kernel_rfl) ?_
          refine RunsI.only [1] [(1, .int .i64 p1)] (by kernel_rfl) (by kernel_rfl) ?_
          exact hj28 p1 w18 h (h17.pick [0, 1, 2] (by decide))
      clear hJ20
      rcases of_cond h with ⟨hc15, h⟩ | ⟨hc15, h⟩
      · skip
        refine RegI.fix 29 true hc15 (by kernel_rfl) (by kernel_rfl) ?_
        refine RegI.pure 4 [1, 23] [(1, .int .i64 p1), (23, .bool (decide (t6 > 0)))] (by kernel_rfl) ?_
        refine RegI.only [1, 23] [(1, .int .i64 p1), (23, .bool (decide (t6 > 0)))] (by kernel_rfl) (by kernel_rfl) ?_
        exact hj21 (decide (t6 > 0)) w10 h (h9.pick [0, 1, 2] (by decide))
      · skip
        refine RegI.fix 29 false hc15 (by kernel_rfl) (by kernel_rfl) ?_
        refine RegI.pure 4 [1, 23] [(1, .int .i64 p1), (23, .bool false)] (by kernel_rfl) ?_
        refine RegI.only [1, 23] [(1, .int .i64 p1), (23, .bool false)] (by kernel_rfl) (by kernel_rfl) ?_
        exact hj21 false w10 h (h9.pick [0, 1, 2] (by decide))
  clear hJ12
  rcases of_cond h with ⟨hc7, h⟩ | ⟨hc7, h⟩
  · skip
    refine RegI.fix 16 true hc7 (by kernel_rfl) (by kernel_rfl) ?_
    refine RegI.pure 4 [1, 5, 6, 12] [(1, .int .i64 p1), (5, .int .i64 (rdD tab_1 p0)), (6, .int .i64 t6), (12, .bool (decide (t6 > 0)))] (by kernel_rfl) ?_
    refine RegI.only [1, 5, 6, 12] [(1, .int .i64 p1), (5, .int .i64 (rdD tab_1 p0)), (6, .int .i64 t6), (12, .bool (decide (t6 > 0)))] (by kernel_rfl) (by kernel_rfl) ?_
    exact hj13 (decide (t6 > 0)) w2 h (h4.pick [0, 1, 2] (by decide))
  · skip
    refine RegI.fix 16 false hc7 (by kernel_rfl) (by kernel_rfl) ?_
    refine RegI.pure 4 [1, 5, 6, 12] [(1, .int .i64 p1), (5, .int .i64 (rdD tab_1 p0)), (6, .int .i64 t6), (12, .bool false)] (by kernel_rfl) ?_
    refine RegI.only [1, 5, 6, 12] [(1, .int .i64 p1), (5, .int .i64 (rdD tab_1 p0)), (6, .int .i64 t6), (12, .bool false)] (by kernel_rfl) (by kernel_rfl) ?_
    exact hj13 false w2 h (h4.pick [0, 1, 2] (by decide))
end

/-! ### charabanc/cycle.Take (function 18) -/
section
def cycle_Take_18.post (M0 : Nat → Prop) (w0 : World) (r : Int × Int) : Ending → World → Prop := fun e w => e = .returned (.tuple #[.int .i64 r.1, .int .i64 r.2]) ∧ Below w0.heap.size w0 w
def cycle_Take_18.l0 (K : Nat) (p0_0 : Int) (p0_1 : Int) (p0_2 : Int) (p0_3 : Int) (p1 : List Bool) : Nat → Int → Int → (List Bool) → Int → Int → Int → Int → Int → Int → Int → Option (Int × Int × (List Bool))
  | 0, _, _, _, _, _, _, _, _, _, _ => none
  | k + 1, t55, t57, t62, t64, t65, t66, t67, t68, t69, t70 => cond (decide ((t62.length : Int) > 0)) (cond (inR 0 t62.length) (cond (cutR (if (t62.length : Int) < 1 then (t62.length : Int) else 1) (t62.length : Int) t62.length) ((cycle_Tick_11.f K t64 t65 t66 t67 t68 t69 (rdD t62 0)).bind fun yt90 => Let (fun (t123 : ByteArray) => Let (fun (t153 : Int) => cond yt90.2.2.2.2.2.2.2 (some (t70, t153, (cutL t62 (if (t62.length : Int) < 1 then (t62.length : Int) else 1) (t62.length : Int)))) (cycle_Take_18.l0 K p0_0 p0_1 p0_2 p0_3 p1 k t70 t153 (cutL t62 (if (t62.length : Int) < 1 then (t62.length : Int) else 1) (t62.length : Int)) yt90.1 yt90.2.1 yt90.2.2.1 yt90.2.2.2.1 yt90.2.2.2.2.1 yt90.2.2.2.2.2.1 (IntKind.wrap .i64 (t70 + 1)))) (fun j156 => cond yt90.2.2.2.2.2.2.1 (j156 t70) (j156 t57))) (fun j126 => cond (decide (yt90.2.2.2.2.1 > t68)) ((cycle_name_59.f K p0_0 yt90.2.2.2.2.1).bind fun t119 => j126 t119) (j126 (⟨#[84, 87]⟩ : ByteArray)))) none) none) (cond (cutR (if (t62.length : Int) < 1 then (t62.length : Int) else 1) (t62.length : Int) t62.length) ((cycle_Tick_11.f K t64 t65 t66 t67 t68 t69 false).bind fun yt174 => Let (fun (t207 : ByteArray) => Let (fun (t237 : Int) => cond yt174.2.2.2.2.2.2.2 (some (t70, t237, (cutL t62 (if (t62.length : Int) < 1 then (t62.length : Int) else 1) (t62.length : Int)))) (cycle_Take_18.l0 K p0_0 p0_1 p0_2 p0_3 p1 k t70 t237 (cutL t62 (if (t62.length : Int) < 1 then (t62.length : Int) else 1) (t62.length : Int)) yt174.1 yt174.2.1 yt174.2.2.1 yt174.2.2.2.1 yt174.2.2.2.2.1 yt174.2.2.2.2.2.1 (IntKind.wrap .i64 (t70 + 1)))) (fun j240 => cond yt174.2.2.2.2.2.2.1 (j240 t70) (j240 t57))) (fun j210 => cond (decide (yt174.2.2.2.2.1 > t68)) ((cycle_name_59.f K p0_0 yt174.2.2.2.2.1).bind fun t203 => j210 t203) (j210 (⟨#[84, 87]⟩ : ByteArray)))) none)
set_option maxRecDepth 100000 in
theorem cycle_Take_18.l0_ok (K : Nat) (M0 : Nat → Prop) (w0 : World) (pA1 : Option Addr) (pc1 : Nat) (p0_0 : Int) (p0_1 : Int) (p0_2 : Int) (p0_3 : Int) (p1 : List Bool) (b53 : Nat) (b54 : Nat) (b56 : Nat) (b58 : Nat) (b59 : Nat) (b63 : Nat) (b71 : Nat) (R : Ending → World → Prop) (x : Int × Int × (List Bool)) (hk0 : ∀ (t247 : Int) (t248 : Int) (t251 : List Bool) (A249 : Option Addr) (c250 : Nat) (w1 : World), x = (t247, t248, t251) → Holds M0 w0 w1 [box b54 3 [.int .i64 t247], box b56 3 [.int .i64 t248], rng F18 16 b53 [(6, .pointer (some ⟨b54, 0, none⟩)), (7, .pointer (some ⟨b56, 0, none⟩)), (15, .func (.func 58) #[] #[.pointer (some ⟨b58, 0, none⟩), .pointer (some ⟨b59, 0, none⟩)])] .ready none, box b58 24 [.int .i64 p0_0, .int .u16 p0_1, .int .u8 p0_2, .int .i64 p0_3], box b59 38 [.slice A249 t251.length c250], sl Rp.bool (.slice A249 t251.length c250) t251, dfr b71, gl 0 (tab_0.flatMap en_0), gl 1 (tab_1.flatMap en_1), gl 2 (tab_2.flatMap en_2)] → R (.returned (.tuple #[])) w1) :
    ∀ (k : Nat) (t55 : Int) (t57 : Int) (t62 : List Bool) (t64 : Int) (t65 : Int) (t66 : Int) (t67 : Int) (t68 : Int) (t69 : Int) (t70 : Int) (A60 : Option Addr) (c61 : Nat) (w : World), cycle_Take_18.l0 K p0_0 p0_1 p0_2 p0_3 p1 k t55 t57 t62 t64 t65 t66 t67 t68 t69 t70 = some x → Holds M0 w0 w [rng F18 16 b53 [(6, .pointer (some ⟨b54, 0, none⟩)), (7, .pointer (some ⟨b56, 0, none⟩)), (15, .func (.func 58) #[] #[.pointer (some ⟨b58, 0, none⟩), .pointer (some ⟨b59, 0, none⟩)])] .ready none, box b54 3 [.int .i64 t55], box b56 3 [.int .i64 t57], box b58 24 [.int .i64 p0_0, .int .u16 p0_1, .int .u8 p0_2, .int .i64 p0_3], box b59 38 [.slice A60 t62.length c61], sl Rp.bool (.slice A60 t62.length c61) t62, box b63 26 [.int .i64 t64, .int .u16 t65, .int .u8 t66, .int .i64 t67, .int .i64 t68, .int .i64 t69], dfr b71, gl 0 (tab_0.flatMap en_0), gl 1 (tab_1.flatMap en_1), gl 2 (tab_2.flatMap en_2)] → RunsI F58 [.c 6, .lp 6, .blk 0] [(0, .func (.yield b53) #[] #[]), (1, .pointer (some ⟨b58, 0, none⟩)), (2, .pointer (some ⟨b59, 0, none⟩)), (4, .pointer (some ⟨b63, 0, none⟩)), (5, .int .i64 t70)] w R := by
  intro k
  induction k with
  | zero => intro t55 t57 t62 t64 t65 t66 t67 t68 t69 t70 A60 c61 w h hH; exact absurd h (by simp [cycle_Take_18.l0])
  | succ k ih =>
    intro t55 t57 t62 t64 t65 t66 t67 t68 t69 t70 A60 c61 w h hH
    rw [cycle_Take_18.l0.eq_2] at h
    refine RunsI.go 1 [.c 7, .c 29, .lp 6, .blk 0] (by kernel_rfl) ?_
    refine RunsI.go 2 [.c 9, .c 10, .blk 1, .c 29, .lp 6, .blk 0] (by kernel_rfl) ?_
    refine RunsI.region (by kernel_rfl) ?_
    refine RegI.op (by kernel_rfl) (OpE.loadBox 15 4 38 b59 0 (.slice A60 t62.length c61) hH (by kernel_rfl) (by kernel_rfl) rfl (by kernel_rfl) ?_)
    refine RegI.pure 3 [0, 1, 2, 4, 5, 18] [(0, .func (.yield b53) #[] #[]), (1, .pointer (some ⟨b58, 0, none⟩)), (2, .pointer (some ⟨b59, 0, none⟩)), (4, .pointer (some ⟨b63, 0, none⟩)), (5, .int .i64 t70), (18, .bool (decide ((t62.length : Int) > 0)))] (by kernel_rfl) ?_
    rcases of_cond h with ⟨hc72, h⟩ | ⟨hc72, h⟩
    · skip
      refine RegI.fix 18 true hc72 (by kernel_rfl) (by kernel_rfl) ?_
      refine RegI.op (by kernel_rfl) (OpE.loadBox 19 4 38 b59 0 (.slice A60 t62.length c61) hH (by kernel_rfl) (by kernel_rfl) rfl (by kernel_rfl) ?_)
      obtain ⟨hc73, h⟩ := of_cond0 h
      refine RegI.op (by kernel_rfl) (OpE.idxSl 20 5 38 0 hH (by kernel_rfl) rfl (by kernel_rfl) (by kernel_rfl) hc73 ?_)
      intro b74 o75 cs76 hk77 h78
      obtain rfl := hk77
      refine RegI.op (by kernel_rfl) (OpE.loadCel 21 11 4 b74 o75 0 (.bool (rdD t62 0)) h78 (by kernel_rfl) (by kernel_rfl) rfl (by kernel_rfl) ?_)
      refine RegI.pure 2 [0, 1, 2, 4, 5, 6, 19, 20, 21] [(0, .func (.yield b53) #[] #[]), (1, .pointer (some ⟨b58, 0, none⟩)), (2, .pointer (some ⟨b59, 0, none⟩)), (4, .pointer (some ⟨b63, 0, none⟩)), (5, .int .i64 t70), (6, .bool (rdD t62 0)), (19, .slice A60 t62.length c61), (20, .pointer (some ⟨b74, o75, none⟩)), (21, .bool (rdD t62 0))] (by kernel_rfl) ?_
      refine RegI.done (by kernel_rfl) ?_
      refine RunsI.go 1 [.c 11, .c 12, .blk 1, .c 29, .lp 6, .blk 0] (by kernel_rfl) ?_
      refine RunsI.region (by kernel_rfl) ?_
      refine RegI.op (by kernel_rfl) (OpE.loadBox 23 4 38 b59 0 (.slice A60 t62.length c61) h78 (by kernel_rfl) (by kernel_rfl) rfl (by kernel_rfl) ?_)
      refine RegI.op (by kernel_rfl) (OpE.loadBox 24 4 38 b59 0 (.slice A60 t62.length c61) h78 (by kernel_rfl) (by kernel_rfl) rfl (by kernel_rfl) ?_)
      refine RegI.pure 2 [0, 1, 2, 4, 5, 6, 19, 20, 21, 23, 26] [(0, .func (.yield b53) #[] #[]), (1, .pointer (some ⟨b58, 0, none⟩)), (2, .pointer (some ⟨b59, 0, none⟩)), (4, .pointer (some ⟨b63, 0, none⟩)), (5, .int .i64 t70), (6, .bool (rdD t62 0)), (19, .slice A60 t62.length c61), (20, .pointer (some ⟨b74, o75, none⟩)), (21, .bool (rdD t62 0)), (23, .slice A60 t62.length c61), (26, .int .i64 (if (t62.length : Int) < 1 then (t62.length : Int) else 1))] (by kernel_rfl) ?_
      obtain ⟨hc79, h⟩ := of_cond0 h
      refine RegI.op (by kernel_rfl) (OpE.cutSl 27 5 38 (some (if (t62.length : Int) < 1 then (t62.length : Int) else 1)) none h78 (by kernel_rfl) rfl (by kernel_rfl) (by kernel_rfl) hc79 ?_)
      intro A80 c81 h82
      refine RegI.op (by kernel_rfl) (OpE.storeBox 4 38 b59 0 (.slice A80 ((cutL t62 (if (t62.length : Int) < 1 then (t62.length : Int) else 1) (t62.length : Int)).length) c81) [.slice A80 ((cutL t62 (if (t62.length : Int) < 1 then (t62.length : Int) else 1) (t62.length : Int)).length) c81] h82 (by kernel_rfl) (by kernel_rfl) rfl (by kernel_rfl) (by kernel_rfl) (by kernel_rfl) ?_)
      intro w83 h84 hk85
      refine RegI.done (by kernel_rfl) ?_
      refine RunsI.go 1 [.c 13, .c 14, .blk 1, .c 29, .lp 6, .blk 0] (by kernel_rfl) ?_
      refine RunsI.region (by kernel_rfl) ?_
      refine RegI.op (by kernel_rfl) (OpE.loadBox 29 6 26 b63 0 (.agg #[.int .i64 t64, .int .u16 t65, .int .u8 t66, .int .i64 t67, .int .i64 t68, .int .i64 t69]) h84 (by kernel_rfl) (by kernel_rfl) rfl (by kernel_rfl) ?_)
      refine RegI.pure 1 [0, 1, 2, 4, 5, 19, 20, 21, 29, 30] [(0, .func (.yield b53) #[] #[]), (1, .pointer (some ⟨b58, 0, none⟩)), (2, .pointer (some ⟨b59, 0, none⟩)), (4, .pointer (some ⟨b63, 0, none⟩)), (5, .int .i64 t70), (19, .slice A60 t62.length c61), (20, .pointer (some ⟨b74, o75, none⟩)), (21, .bool (rdD t62 0)), (29, .agg #[.int .i64 t64, .int .u16 t65, .int .u8 t66, .int .i64 t67, .int .i64 t68, .int .i64 t69]), (30, .bool (rdD t62 0))] (by kernel_rfl) ?_
      obtain ⟨⟨t90, t91, t92, t93, t94, t95, t96, t97⟩, hg89, h⟩ := of_bind h
      dsimp only at h
      refine RegI.op (by kernel_rfl) (OpE.call 31 (by kernel_rfl) 11 #[.agg #[.int .i64 t64, .int .u16 t65, .int .u8 t66, .int .i64 t67, .int .i64 t68, .int .i64 t69], .bool (rdD t62 0)] (by kernel_rfl) ((cycle_Tick_11_ok K _ w83  t64 t65 t66 t67 t68 t69 (rdD t62 0) h84.old' (h84.get 8 rfl) hg89).mono ?_))
      rintro _ w86 ⟨rfl, hb87⟩
      refine ⟨_, rfl, ?_⟩
      have h88 := h84.call hb87
      refine RegI.pure 4 [0, 1, 2, 4, 5, 19, 20, 21, 32, 33, 34] [(0, .func (.yield b53) #[] #[]), (1, .pointer (some ⟨b58, 0, none⟩)), (2, .pointer (some ⟨b59, 0, none⟩)), (4, .pointer (some ⟨b63, 0, none⟩)), (5, .int .i64 t70), (19, .slice A60 t62.length c61), (20, .pointer (some ⟨b74, o75, none⟩)), (21, .bool (rdD t62 0)), (32, .agg #[.int .i64 t90, .int .u16 t91, .int .u8 t92, .int .i64 t93, .int .i64 t94, .int .i64 t95]), (33, .bool t96), (34, .bool t97)] (by kernel_rfl) ?_
      refine RegI.op (by kernel_rfl) (OpE.box 7 26 [.int .i64 0, .int .u16 0, .int .u8 0, .int .i64 0, .int .i64 0, .int .i64 0] h88 (by kernel_rfl) (by kernel_rfl) ?_)
      intro w98 b99 h100 hb101 hn102
      refine RegI.op (by kernel_rfl) (OpE.storeBox 13 26 b99 0 (.agg #[.int .i64 t90, .int .u16 t91, .int .u8 t92, .int .i64 t93, .int .i64 t94, .int .i64 t95]) [.int .i64 t90, .int .u16 t91, .int .u8 t92, .int .i64 t93, .int .i64 t94, .int .i64 t95] h100 (by kernel_rfl) (by kernel_rfl) rfl (by kernel_rfl) (by kernel_rfl) (by kernel_rfl) ?_)
      intro w103 h104 hk105
      refine RegI.pure 2 [0, 1, 2, 4, 5, 7, 8, 9, 19, 20, 21] [(0, .func (.yield b53) #[] #[]), (1, .pointer (some ⟨b58, 0, none⟩)), (2, .pointer (some ⟨b59, 0, none⟩)), (4, .pointer (some ⟨b63, 0, none⟩)), (5, .int .i64 t70), (7, .pointer (some ⟨b99, 0, none⟩)), (8, .bool t96), (9, .bool t97), (19, .slice A60 t62.length c61), (20, .pointer (some ⟨b74, o75, none⟩)), (21, .bool (rdD t62 0))] (by kernel_rfl) ?_
      refine RegI.done (by kernel_rfl) ?_
      refine RunsI.go 1 [.c 15, .c 16, .blk 1, .c 29, .lp 6, .blk 0] (by kernel_rfl) ?_
      refine RunsI.region (by kernel_rfl) ?_
      refine RegI.pure 2 [0, 1, 2, 4, 5, 7, 9, 19, 20, 21, 36] [(0, .func (.yield b53) #[] #[]), (1, .pointer (some ⟨b58, 0, none⟩)), (2, .pointer (some ⟨b59, 0, none⟩)), (4, .pointer (some ⟨b63, 0, none⟩)), (5, .int .i64 t70), (7, .pointer (some ⟨b99, 0, none⟩)), (9, .bool t97), (19, .slice A60 t62.length c61), (20, .pointer (some ⟨b74, o75, none⟩)), (21, .bool (rdD t62 0)), (36, .agg #[.string (⟨#[84, 87]⟩ : ByteArray), .bool t96])] (by kernel_rfl) ?_
      refine RegI.op (by kernel_rfl) (OpE.box 10 61 [.string ByteArray.empty, .bool false] h104 (by kernel_rfl) (by kernel_rfl) ?_)
      intro w106 b107 h108 hb109 hn110
      refine RegI.op (by kernel_rfl) (OpE.storeBox 14 61 b107 0 (.agg #[.string (⟨#[84, 87]⟩ : ByteArray), .bool t96]) [.string (⟨#[84, 87]⟩ : ByteArray), .bool t96] h108 (by kernel_rfl) (by kernel_rfl) rfl (by kernel_rfl) (by kernel_rfl) (by kernel_rfl) ?_)
      intro w111 h112 hk113
      refine RegI.done (by kernel_rfl) ?_
      refine RunsI.go 2 [.c 18, .c 19, .c 22, .blk 1, .c 29, .lp 6, .blk 0] (by kernel_rfl) ?_
      refine RunsI.region (by kernel_rfl) ?_
      refine RegI.pure 1 [0, 1, 2, 4, 5, 7, 9, 10, 19, 20, 21, 37] [(0, .func (.yield b53) #[] #[]), (1, .pointer (some ⟨b58, 0, none⟩)), (2, .pointer (some ⟨b59, 0, none⟩)), (4, .pointer (some ⟨b63, 0, none⟩)), (5, .int .i64 t70), (7, .pointer (some ⟨b99, 0, none⟩)), (9, .bool t97), (10, .pointer (some ⟨b107, 0, none⟩)), (19, .slice A60 t62.length c61), (20, .pointer (some ⟨b74, o75, none⟩)), (21, .bool (rdD t62 0)), (37, .pointer (some ⟨b99, 4, none⟩))] (by kernel_rfl) ?_
      refine RegI.op (by kernel_rfl) (OpE.loadBox 38 13 3 b99 4 (.int .i64 t94) h112 (by kernel_rfl) (by kernel_rfl) rfl (by kernel_rfl) ?_)
      refine RegI.pure 1 [0, 1, 2, 4, 5, 7, 9, 10, 19, 20, 21, 38, 39] [(0, .func (.yield b53) #[] #[]), (1, .pointer (some ⟨b58, 0, none⟩)), (2, .pointer (some ⟨b59, 0, none⟩)), (4, .pointer (some ⟨b63, 0, none⟩)), (5, .int .i64 t70), (7, .pointer (some ⟨b99, 0, none⟩)), (9, .bool t97), (10, .pointer (some ⟨b107, 0, none⟩)), (19, .slice A60 t62.length c61), (20, .pointer (some ⟨b74, o75, none⟩)), (21, .bool (rdD t62 0)), (38, .int .i64 t94), (39, .pointer (some ⟨b63, 4, none⟩))] (by kernel_rfl) ?_
      refine RegI.op (by kernel_rfl) (OpE.loadBox 40 6 3 b63 4 (.int .i64 t68) h112 (by kernel_rfl) (by kernel_rfl) rfl (by kernel_rfl) ?_)
      refine RegI.pure 1 [0, 1, 2, 4, 5, 7, 9, 10, 19, 20, 21, 41] [(0, .func (.yield b53) #[] #[]), (1, .pointer (some ⟨b58, 0, none⟩)), (2, .pointer (some ⟨b59, 0, none⟩)), (4, .pointer (some ⟨b63, 0, none⟩)), (5, .int .i64 t70), (7, .pointer (some ⟨b99, 0, none⟩)), (9, .bool t97), (10, .pointer (some ⟨b107, 0, none⟩)), (19, .slice A60 t62.length c61), (20, .pointer (some ⟨b74, o75, none⟩)), (21, .bool (rdD t62 0)), (41, .bool (decide (t94 > t68)))] (by kernel_rfl) ?_
      refine RegI.done (by kernel_rfl) ?_
      obtain ⟨j126, hJ127, h⟩ := of_let h
      have hj128 : ∀ (t123 : ByteArray) (w125 : World), j126 t123 = some x → Holds M0 w0 w125 [rng F18 16 b53 [(6, .pointer (some ⟨b54, 0, none⟩)), (7, .pointer (some ⟨b56, 0, none⟩)), (15, .func (.func 58) #[] #[.pointer (some ⟨b58, 0, none⟩), .pointer (some ⟨b59, 0, none⟩)])] .ready none, box b54 3 [.int .i64 t55], box b56 3 [.int .i64 t57], box b58 24 [.int .i64 p0_0, .int .u16 p0_1, .int .u8 p0_2, .int .i64 p0_3], box b59 38 [.slice A80 ((cutL t62 (if (t62.length : Int) < 1 then (t62.length : Int) else 1) (t62.length : Int)).length) c81], sl Rp.bool (.slice A80 ((cutL t62 (if (t62.length : Int) < 1 then (t62.length : Int) else 1) (t62.length : Int)).length) c81) (cutL t62 (if (t62.length : Int) < 1 then (t62.length : Int) else 1) (t62.length : Int)), box b63 26 [.int .i64 t64, .int .u16 t65, .int .u8 t66, .int .i64 t67, .int .i64 t68, .int .i64 t69], box b99 26 [.int .i64 t90, .int .u16 t91, .int .u8 t92, .int .i64 t93, .int .i64 t94, .int .i64 t95], box b107 61 [.string t123, .bool t96], sl Rp.bool (.slice A60 t62.length c61) t62, cel b74 o75 [.bool (rdD t62 0)], dfr b71, gl 0 (tab_0.flatMap en_0), gl 1 (tab_1.flatMap en_1), gl 2 (tab_2.flatMap en_2)] → RunsI F58 [.c 22, .blk 1, .c 29, .lp 6, .blk 0] [(0, .func (.yield b53) #[] #[]), (1, .pointer (some ⟨b58, 0, none⟩)), (2, .pointer (some ⟨b59, 0, none⟩)), (4, .pointer (some ⟨b63, 0, none⟩)), (5, .int .i64 t70), (7, .pointer (some ⟨b99, 0, none⟩)), (9, .bool t97), (10, .pointer (some ⟨b107, 0, none⟩)), (19, .slice A60 t62.length c61), (20, .pointer (some ⟨b74, o75, none⟩)), (21, .bool (rdD t62 0))] w125 R := by
        intro t123 w125 h h124
        rw [hJ127] at h
        clear hJ127
        dsimp only at h
        refine RunsI.go 2 [.c 24, .c 25, .c 28, .blk 1, .c 29, .lp 6, .blk 0] (by kernel_rfl) ?_
        refine RunsI.region (by kernel_rfl) ?_
        refine RegI.pure 2 [0, 1, 2, 4, 5, 7, 9, 10, 19, 20, 21, 48, 49] [(0, .func (.yield b53) #[] #[]), (1, .pointer (some ⟨b58, 0, none⟩)), (2, .pointer (some ⟨b59, 0, none⟩)), (4, .pointer (some ⟨b63, 0, none⟩)), (5, .int .i64 t70), (7, .pointer (some ⟨b99, 0, none⟩)), (9, .bool t97), (10, .pointer (some ⟨b107, 0, none⟩)), (19, .slice A60 t62.length c61), (20, .pointer (some ⟨b74, o75, none⟩)), (21, .bool (rdD t62 0)), (48, .func (.yield b53) #[] #[]), (49, .int .i64 t70)] (by kernel_rfl) ?_
        refine RegI.op (by kernel_rfl) (OpE.loadBox 50 8 61 b107 0 (.agg #[.string t123, .bool t96]) h124 (by kernel_rfl) (by kernel_rfl) rfl (by kernel_rfl) ?_)
        refine RegI.yield 51 b53 16 0 [.int .i64 t70, .agg #[.string t123, .bool t96]] [0, 1, 2, 4, 5, 7, 9, 19, 20, 21] [(0, .func (.yield b53) #[] #[]), (1, .pointer (some ⟨b58, 0, none⟩)), (2, .pointer (some ⟨b59, 0, none⟩)), (4, .pointer (some ⟨b63, 0, none⟩)), (5, .int .i64 t70), (7, .pointer (some ⟨b99, 0, none⟩)), (9, .bool t97), (19, .slice A60 t62.length c61), (20, .pointer (some ⟨b74, o75, none⟩)), (21, .bool (rdD t62 0))] h124 (by kernel_rfl) (by kernel_rfl) (by kernel_rfl) (by kernel_rfl) rfl (by kernel_rfl) (by kernel_rfl) (by kernel_rfl) [.c 17, .bg, .c 20] (by kernel_rfl) [(17, .agg #[.string t123, .bool t96]), (16, .int .i64 t70), (6, .pointer (some ⟨b54, 0, none⟩)), (7, .pointer (some ⟨b56, 0, none⟩)), (15, .func (.func 58) #[] #[.pointer (some ⟨b58, 0, none⟩), .pointer (some ⟨b59, 0, none⟩)])] (by kernel_rfl) ?_
        refine RunsI.only [6, 7, 16, 17] [(6, .pointer (some ⟨b54, 0, none⟩)), (7, .pointer (some ⟨b56, 0, none⟩)), (16, .int .i64 t70), (17, .agg #[.string t123, .bool t96])] (by kernel_rfl) (by kernel_rfl) ?_
        obtain ⟨j156, hJ157, h⟩ := of_let h
        have hj158 : ∀ (t153 : Int) (w155 : World), j156 t153 = some x → Holds M0 w0 w155 [rng F18 16 b53 [(6, .pointer (some ⟨b54, 0, none⟩)), (7, .pointer (some ⟨b56, 0, none⟩)), (15, .func (.func 58) #[] #[.pointer (some ⟨b58, 0, none⟩), .pointer (some ⟨b59, 0, none⟩)])] .ready none, box b54 3 [.int .i64 t70], box b56 3 [.int .i64 t153], box b58 24 [.int .i64 p0_0, .int .u16 p0_1, .int .u8 p0_2, .int .i64 p0_3], box b59 38 [.slice A80 ((cutL t62 (if (t62.length : Int) < 1 then (t62.length : Int) else 1) (t62.length : Int)).length) c81], sl Rp.bool (.slice A80 ((cutL t62 (if (t62.length : Int) < 1 then (t62.length : Int) else 1) (t62.length : Int)).length) c81) (cutL t62 (if (t62.length : Int) < 1 then (t62.length : Int) else 1) (t62.length : Int)), box b63 26 [.int .i64 t64, .int .u16 t65, .int .u8 t66, .int .i64 t67, .int .i64 t68, .int .i64 t69], box b99 26 [.int .i64 t90, .int .u16 t91, .int .u8 t92, .int .i64 t93, .int .i64 t94, .int .i64 t95], sl Rp.bool (.slice A60 t62.length c61) t62, cel b74 o75 [.bool (rdD t62 0)], dfr b71, gl 0 (tab_0.flatMap en_0), gl 1 (tab_1.flatMap en_1), gl 2 (tab_2.flatMap en_2)] → RegI F58 24 [.c 25, .c 28, .blk 1, .c 29, .lp 6, .blk 0] 4 [(0, .func (.yield b53) #[] #[]), (1, .pointer (some ⟨b58, 0, none⟩)), (2, .pointer (some ⟨b59, 0, none⟩)), (4, .pointer (some ⟨b63, 0, none⟩)), (5, .int .i64 t70), (7, .pointer (some ⟨b99, 0, none⟩)), (9, .bool t97), (19, .slice A60 t62.length c61), (20, .pointer (some ⟨b74, o75, none⟩)), (21, .bool (rdD t62 0)), (51, .bool true)] w155 R := by
          intro t153 w155 h h154
          rw [hJ157] at h
          clear hJ157
          dsimp only at h
          refine RegI.pure 4 [0, 1, 2, 4, 5, 7, 19, 20, 21, 54, 55] [(0, .func (.yield b53) #[] #[]), (1, .pointer (some ⟨b58, 0, none⟩)), (2, .pointer (some ⟨b59, 0, none⟩)), (4, .pointer (some ⟨b63, 0, none⟩)), (5, .int .i64 t70), (7, .pointer (some ⟨b99, 0, none⟩)), (19, .slice A60 t62.length c61), (20, .pointer (some ⟨b74, o75, none⟩)), (21, .bool (rdD t62 0)), (54, .bool t97), (55, .bool t97)] (by kernel_rfl) ?_
          refine RegI.done (by kernel_rfl) ?_
          rcases of_cond h with ⟨hc159, h⟩ | ⟨hc159, h⟩
          · skip
            refine RunsI.fix 55 true hc159 (by kernel_rfl) (by kernel_rfl) ?_
            refine RunsI.cond true 26 (by kernel_rfl) ?_
            refine RunsI.ret (.tuple #[]) (by kernel_rfl) (by kernel_rfl) ?_
            exact hk0 t70 t153 (cutL t62 (if (t62.length : Int) < 1 then (t62.length : Int) else 1) (t62.length : Int)) A80 c81 w155 (Option.some.inj h).symm (h154.pick [1, 2, 0, 3, 4, 5, 10, 11, 12, 13] (by decide))
          · skip
            refine RunsI.fix 55 false hc159 (by kernel_rfl) (by kernel_rfl) ?_
            refine RunsI.cond false 27 (by kernel_rfl) ?_
            refine RunsI.go 1 [.c 28, .blk 1, .c 29, .lp 6, .blk 0] (by kernel_rfl) ?_
            refine RunsI.region (by kernel_rfl) ?_
            refine RegI.op (by kernel_rfl) (OpE.loadBox 56 7 26 b99 0 (.agg #[.int .i64 t90, .int .u16 t91, .int .u8 t92, .int .i64 t93, .int .i64 t94, .int .i64 t95]) h154 (by kernel_rfl) (by kernel_rfl) rfl (by kernel_rfl) ?_)
            refine RegI.op (by kernel_rfl) (OpE.storeBox 6 26 b63 0 (.agg #[.int .i64 t90, .int .u16 t91, .int .u8 t92, .int .i64 t93, .int .i64 t94, .int .i64 t95]) [.int .i64 t90, .int .u16 t91, .int .u8 t92, .int .i64 t93, .int .i64 t94, .int .i64 t95] h154 (by kernel_rfl) (by kernel_rfl) rfl (by kernel_rfl) (by kernel_rfl) (by kernel_rfl) ?_)
            intro w160 h161 hk162
            refine RegI.done (by kernel_rfl) ?_
            refine RunsI.go 1 [.c 29, .lp 6, .blk 0] (by kernel_rfl) ?_
            refine RunsI.region (by kernel_rfl) ?_
            refine RegI.pure 3 [0, 1, 2, 4, 5, 19, 20, 21, 54] [(0, .func (.yield b53) #[] #[]), (1, .pointer (some ⟨b58, 0, none⟩)), (2, .pointer (some ⟨b59, 0, none⟩)), (4, .pointer (some ⟨b63, 0, none⟩)), (5, .int .i64 (IntKind.wrap .i64 (t70 + 1))), (19, .slice A60 t62.length c61), (20, .pointer (some ⟨b74, o75, none⟩)), (21, .bool (rdD t62 0)), (54, .bool t97)] (by kernel_rfl) ?_
            refine RegI.done (by kernel_rfl) ?_
            refine RunsI.go 1 [.c 6, .lp 6, .blk 0] (by kernel_rfl) ?_
            refine RunsI.only [0, 1, 2, 4, 5] [(0, .func (.yield b53) #[] #[]), (1, .pointer (some ⟨b58, 0, none⟩)), (2, .pointer (some ⟨b59, 0, none⟩)), (4, .pointer (some ⟨b63, 0, none⟩)), (5, .int .i64 (IntKind.wrap .i64 (t70 + 1)))] (by kernel_rfl) (by kernel_rfl) ?_
            exact ih t70 t153 (cutL t62 (if (t62.length : Int) < 1 then (t62.length : Int) else 1) (t62.length : Int)) t90 t91 t92 t93 t94 t95 (IntKind.wrap .i64 (t70 + 1)) A80 c81 w160 h (h161.pick [0, 1, 2, 3, 4, 5, 6, 10, 11, 12, 13] (by decide))
        clear hJ157
        refine RunsI.go 1 [.c 18, .c 19, .bg, .c 20] (by kernel_rfl) ?_
        refine RunsI.region (by kernel_rfl) ?_
        refine RegI.pure 1 [6, 7, 8, 17] [(6, .pointer (some ⟨b54, 0, none⟩)), (7, .pointer (some ⟨b56, 0, none⟩)), (8, .int .i64 t70), (17, .agg #[.string t123, .bool t96])] (by kernel_rfl) ?_
        refine RegI.done (by kernel_rfl) ?_
        refine RunsI.region (by kernel_rfl) ?_
        refine RegI.op (by kernel_rfl) (OpE.box 9 61 [.string ByteArray.empty, .bool false] h124 (by kernel_rfl) (by kernel_rfl) ?_)
        intro w129 b130 h131 hb132 hn133
        refine RegI.op (by kernel_rfl) (OpE.storeBox 15 61 b130 0 (.agg #[.string t123, .bool t96]) [.string t123, .bool t96] h131 (by kernel_rfl) (by kernel_rfl) rfl (by kernel_rfl) (by kernel_rfl) (by kernel_rfl) ?_)
        intro w134 h135 hk136
        refine RegI.done (by kernel_rfl) ?_
        refine RunsI.begin 0 h135 rfl rfl ?_
        intro w137 h138 hk139
        refine RunsI.go 2 [.c 22, .c 23, .blk 1] (by kernel_rfl) ?_
        refine RunsI.region (by kernel_rfl) ?_
        refine RegI.pure 1 [6, 7, 8, 9, 18] [(6, .pointer (some ⟨b54, 0, none⟩)), (7, .pointer (some ⟨b56, 0, none⟩)), (8, .int .i64 t70), (9, .pointer (some ⟨b130, 0, none⟩)), (18, .int .i64 t70)] (by kernel_rfl) ?_
        refine RegI.op (by kernel_rfl) (OpE.storeBox 1 3 b54 0 (.int .i64 t70) [.int .i64 t70] h138 (by kernel_rfl) (by kernel_rfl) rfl (by kernel_rfl) (by kernel_rfl) (by kernel_rfl) ?_)
        intro w140 h141 hk142
        refine RegI.done (by kernel_rfl) ?_
        refine RunsI.go 1 [.c 24, .c 25, .blk 1] (by kernel_rfl) ?_
        refine RunsI.region (by kernel_rfl) ?_
        refine RegI.pure 1 [7, 8, 19] [(7, .pointer (some ⟨b56, 0, none⟩)), (8, .int .i64 t70), (19, .pointer (some ⟨b130, 1, none⟩))] (by kernel_rfl) ?_
        refine RegI.op (by kernel_rfl) (OpE.loadBox 20 15 4 b130 1 (.bool t96) h141 (by kernel_rfl) (by kernel_rfl) rfl (by kernel_rfl) ?_)
        refine RegI.done (by kernel_rfl) ?_
        rcases of_cond h with ⟨hc143, h⟩ | ⟨hc143, h⟩
        · skip
          refine RunsI.fix 20 true hc143 (by kernel_rfl) (by kernel_rfl) ?_
          refine RunsI.cond true 26 (by kernel_rfl) ?_
          refine RunsI.region (by kernel_rfl) ?_
          refine RegI.pure 1 [7, 21] [(7, .pointer (some ⟨b56, 0, none⟩)), (21, .int .i64 t70)] (by kernel_rfl) ?_
          refine RegI.op (by kernel_rfl) (OpE.storeBox 2 3 b56 0 (.int .i64 t70) [.int .i64 t70] h141 (by kernel_rfl) (by kernel_rfl) rfl (by kernel_rfl) (by kernel_rfl) (by kernel_rfl) ?_)
          intro w144 h145 hk146
          refine RegI.done (by kernel_rfl) ?_
          refine RunsI.go 1 [] (by kernel_rfl) ?_
          refine RunsI.roundEnd 0 h145 rfl rfl ?_
          intro w147 h148 hk149
          refine cont_mk ?_
          refine RegI.only [0, 1, 2, 4, 5, 7, 9, 19, 20, 21, 51] [(0, .func (.yield b53) #[] #[]), (1, .pointer (some ⟨b58, 0, none⟩)), (2, .pointer (some ⟨b59, 0, none⟩)), (4, .pointer (some ⟨b63, 0, none⟩)), (5, .int .i64 t70), (7, .pointer (some ⟨b99, 0, none⟩)), (9, .bool t97), (19, .slice A60 t62.length c61), (20, .pointer (some ⟨b74, o75, none⟩)), (21, .bool (rdD t62 0)), (51, .bool true)] (by kernel_rfl) (by kernel_rfl) ?_
          exact hj158 t70 w147 h (h148.pick [0, 1, 2, 3, 4, 5, 6, 7, 9, 10, 11, 12, 13, 14] (by decide))
        · skip
          refine RunsI.fix 20 false hc143 (by kernel_rfl) (by kernel_rfl) ?_
          refine RunsI.cond false 27 (by kernel_rfl) ?_
          refine RunsI.go 1 [.blk 1] (by kernel_rfl) ?_
          refine RunsI.go 1 [] (by kernel_rfl) ?_
          refine RunsI.roundEnd 0 h141 rfl rfl ?_
          intro w150 h151 hk152
          refine cont_mk ?_
          refine RegI.only [0, 1, 2, 4, 5, 7, 9, 19, 20, 21, 51] [(0, .func (.yield b53) #[] #[]), (1, .pointer (some ⟨b58, 0, none⟩)), (2, .pointer (some ⟨b59, 0, none⟩)), (4, .pointer (some ⟨b63, 0, none⟩)), (5, .int .i64 t70), (7, .pointer (some ⟨b99, 0, none⟩)), (9, .bool t97), (19, .slice A60 t62.length c61), (20, .pointer (some ⟨b74, o75, none⟩)), (21, .bool (rdD t62 0)), (51, .bool true)] (by kernel_rfl) (by kernel_rfl) ?_
          exact hj158 t57 w150 h (h151.pick [0, 1, 2, 3, 4, 5, 6, 7, 9, 10, 11, 12, 13, 14] (by decide))
      clear hJ127
      rcases of_cond h with ⟨hc114, h⟩ | ⟨hc114, h⟩
      · skip
        refine RunsI.fix 41 true hc114 (by kernel_rfl) (by kernel_rfl) ?_
        refine RunsI.cond true 20 (by kernel_rfl) ?_
        refine RunsI.region (by kernel_rfl) ?_
        refine RegI.pure 1 [0, 1, 2, 4, 5, 7, 9, 10, 19, 20, 21, 42] [(0, .func (.yield b53) #[] #[]), (1, .pointer (some ⟨b58, 0, none⟩)), (2, .pointer (some ⟨b59, 0, none⟩)), (4, .pointer (some ⟨b63, 0, none⟩)), (5, .int .i64 t70), (7, .pointer (some ⟨b99, 0, none⟩)), (9, .bool t97), (10, .pointer (some ⟨b107, 0, none⟩)), (19, .slice A60 t62.length c61), (20, .pointer (some ⟨b74, o75, none⟩)), (21, .bool (rdD t62 0)), (42, .pointer (some ⟨b58, 0, none⟩))] (by kernel_rfl) ?_
        refine RegI.op (by kernel_rfl) (OpE.loadBox 43 3 3 b58 0 (.int .i64 p0_0) h112 (by kernel_rfl) (by kernel_rfl) rfl (by kernel_rfl) ?_)
        refine RegI.pure 1 [0, 1, 2, 4, 5, 7, 9, 10, 19, 20, 21, 43, 44] [(0, .func (.yield b53) #[] #[]), (1, .pointer (some ⟨b58, 0, none⟩)), (2, .pointer (some ⟨b59, 0, none⟩)), (4, .pointer (some ⟨b63, 0, none⟩)), (5, .int .i64 t70), (7, .pointer (some ⟨b99, 0, none⟩)), (9, .bool t97), (10, .pointer (some ⟨b107, 0, none⟩)), (19, .slice A60 t62.length c61), (20, .pointer (some ⟨b74, o75, none⟩)), (21, .bool (rdD t62 0)), (43, .int .i64 p0_0), (44, .pointer (some ⟨b99, 4, none⟩))] (by kernel_rfl) ?_
        refine RegI.op (by kernel_rfl) (OpE.loadBox 45 13 3 b99 4 (.int .i64 t94) h112 (by kernel_rfl) (by kernel_rfl) rfl (by kernel_rfl) ?_)
        obtain ⟨t119, hg118, h⟩ := of_bind h
        refine RegI.op (by kernel_rfl) (OpE.call 46 (by kernel_rfl) 59 #[.int .i64 p0_0, .int .i64 t94] (by kernel_rfl) ((cycle_name_59_ok K _ w111  p0_0 t94 h112.old' (h112.get 8 rfl) (h112.get 9 rfl) (h112.get 10 rfl) hg118).mono ?_))
        rintro _ w115 ⟨rfl, hb116⟩
        refine ⟨_, rfl, ?_⟩
        have h117 := h112.call hb116
        refine RegI.pure 1 [0, 1, 2, 4, 5, 7, 9, 10, 19, 20, 21, 46, 47] [(0, .func (.yield b53) #[] #[]), (1, .pointer (some ⟨b58, 0, none⟩)), (2, .pointer (some ⟨b59, 0, none⟩)), (4, .pointer (some ⟨b63, 0, none⟩)), (5, .int .i64 t70), (7, .pointer (some ⟨b99, 0, none⟩)), (9, .bool t97), (10, .pointer (some ⟨b107, 0, none⟩)), (19, .slice A60 t62.length c61), (20, .pointer (some ⟨b74, o75, none⟩)), (21, .bool (rdD t62 0)), (46, .string t119), (47, .pointer (some ⟨b107, 0, none⟩))] (by kernel_rfl) ?_
        refine RegI.op (by kernel_rfl) (OpE.storeBox 14 9 b107 0 (.string t119) [.string t119, .bool t96] h117 (by kernel_rfl) (by kernel_rfl) rfl (by kernel_rfl) (by kernel_rfl) (by kernel_rfl) ?_)
        intro w120 h121 hk122
        refine RegI.done (by kernel_rfl) ?_
        refine RunsI.only [0, 1, 2, 4, 5, 7, 9, 10, 19, 20, 21] [(0, .func (.yield b53) #[] #[]), (1, .pointer (some ⟨b58, 0, none⟩)), (2, .pointer (some ⟨b59, 0, none⟩)), (4, .pointer (some ⟨b63, 0, none⟩)), (5, .int .i64 t70), (7, .pointer (some ⟨b99, 0, none⟩)), (9, .bool t97), (10, .pointer (some ⟨b107, 0, none⟩)), (19, .slice A60 t62.length c61), (20, .pointer (some ⟨b74, o75, none⟩)), (21, .bool (rdD t62 0))] (by kernel_rfl) (by kernel_rfl) ?_
        exact hj128 t119 w120 h (h121.pick [0, 1, 2, 3, 4, 12, 6, 13, 14, 5, 11, 7, 8, 9, 10] (by decide))
      · skip
        refine RunsI.fix 41 false hc114 (by kernel_rfl) (by kernel_rfl) ?_
        refine RunsI.cond false 21 (by kernel_rfl) ?_
        refine RunsI.go 1 [.c 22, .blk 1, .c 29, .lp 6, .blk 0] (by kernel_rfl) ?_
        refine RunsI.only [0, 1, 2, 4, 5, 7, 9, 10, 19, 20, 21] [(0, .func (.yield b53) #[] #[]), (1, .pointer (some ⟨b58, 0, none⟩)), (2, .pointer (some ⟨b59, 0, none⟩)), (4, .pointer (some ⟨b63, 0, none⟩)), (5, .int .i64 t70), (7, .pointer (some ⟨b99, 0, none⟩)), (9, .bool t97), (10, .pointer (some ⟨b107, 0, none⟩)), (19, .slice A60 t62.length c61), (20, .pointer (some ⟨b74, o75, none⟩)), (21, .bool (rdD t62 0))] (by kernel_rfl) (by kernel_rfl) ?_
        exact hj128 (⟨#[84, 87]⟩ : ByteArray) w111 h (h112.pick [0, 1, 2, 3, 4, 12, 6, 13, 14, 5, 11, 7, 8, 9, 10] (by decide))
    · skip
      refine RegI.fix 18 false hc72 (by kernel_rfl) (by kernel_rfl) ?_
      refine RegI.pure 5 [0, 1, 2, 4, 5, 6, 19, 20, 21] [(0, .func (.yield b53) #[] #[]), (1, .pointer (some ⟨b58, 0, none⟩)), (2, .pointer (some ⟨b59, 0, none⟩)), (4, .pointer (some ⟨b63, 0, none⟩)), (5, .int .i64 t70), (6, .bool false), (19, undef), (20, undef), (21, undef)] (by kernel_rfl) ?_
      refine RegI.done (by kernel_rfl) ?_
      refine RunsI.go 1 [.c 11, .c 12, .blk 1, .c 29, .lp 6, .blk 0] (by kernel_rfl) ?_
      refine RunsI.region (by kernel_rfl) ?_
      refine RegI.op (by kernel_rfl) (OpE.loadBox 23 4 38 b59 0 (.slice A60 t62.length c61) hH (by kernel_rfl) (by kernel_rfl) rfl (by kernel_rfl) ?_)
      refine RegI.op (by kernel_rfl) (OpE.loadBox 24 4 38 b59 0 (.slice A60 t62.length c61) hH (by kernel_rfl) (by kernel_rfl) rfl (by kernel_rfl) ?_)
      refine RegI.pure 2 [0, 1, 2, 4, 5, 6, 19, 20, 21, 23, 26] [(0, .func (.yield b53) #[] #[]), (1, .pointer (some ⟨b58, 0, none⟩)), (2, .pointer (some ⟨b59, 0, none⟩)), (4, .pointer (some ⟨b63, 0, none⟩)), (5, .int .i64 t70), (6, .bool false), (19, undef), (20, undef), (21, undef), (23, .slice A60 t62.length c61), (26, .int .i64 (if (t62.length : Int) < 1 then (t62.length : Int) else 1))] (by kernel_rfl) ?_
      obtain ⟨hc163, h⟩ := of_cond0 h
      refine RegI.op (by kernel_rfl) (OpE.cutSl 27 5 38 (some (if (t62.length : Int) < 1 then (t62.length : Int) else 1)) none hH (by kernel_rfl) rfl (by kernel_rfl) (by kernel_rfl) hc163 ?_)
      intro A164 c165 h166
      refine RegI.op (by kernel_rfl) (OpE.storeBox 4 38 b59 0 (.slice A164 ((cutL t62 (if (t62.length : Int) < 1 then (t62.length : Int) else 1) (t62.length : Int)).length) c165) [.slice A164 ((cutL t62 (if (t62.length : Int) < 1 then (t62.length : Int) else 1) (t62.length : Int)).length) c165] h166 (by kernel_rfl) (by kernel_rfl) rfl (by kernel_rfl) (by kernel_rfl) (by kernel_rfl) ?_)
      intro w167 h168 hk169
      refine RegI.done (by kernel_rfl) ?_
      refine RunsI.go 1 [.c 13, .c 14, .blk 1, .c 29, .lp 6, .blk 0] (by kernel_rfl) ?_
      refine RunsI.region (by kernel_rfl) ?_
      refine RegI.op (by kernel_rfl) (OpE.loadBox 29 6 26 b63 0 (.agg #[.int .i64 t64, .int .u16 t65, .int .u8 t66, .int .i64 t67, .int .i64 t68, .int .i64 t69]) h168 (by kernel_rfl) (by kernel_rfl) rfl (by kernel_rfl) ?_)
      refine RegI.pure 1 [0, 1, 2, 4, 5, 19, 20, 21, 29, 30] [(0, .func (.yield b53) #[] #[]), (1, .pointer (some ⟨b58, 0, none⟩)), (2, .pointer (some ⟨b59, 0, none⟩)), (4, .pointer (some ⟨b63, 0, none⟩)), (5, .int .i64 t70), (19, undef), (20, undef), (21, undef), (29, .agg #[.int .i64 t64, .int .u16 t65, .int .u8 t66, .int .i64 t67, .int .i64 t68, .int .i64 t69]), (30, .bool false)] (by kernel_rfl) ?_
      obtain ⟨⟨t174, t175, t176, t177, t178, t179, t180, t181⟩, hg173, h⟩ := of_bind h
      dsimp only at h
      refine RegI.op (by kernel_rfl) (OpE.call 31 (by kernel_rfl) 11 #[.agg #[.int .i64 t64, .int .u16 t65, .int .u8 t66, .int .i64 t67, .int .i64 t68, .int .i64 t69], .bool false] (by kernel_rfl) ((cycle_Tick_11_ok K _ w167  t64 t65 t66 t67 t68 t69 false h168.old' (h168.get 8 rfl) hg173).mono ?_))
      rintro _ w170 ⟨rfl, hb171⟩
      refine ⟨_, rfl, ?_⟩
      have h172 := h168.call hb171
      refine RegI.pure 4 [0, 1, 2, 4, 5, 19, 20, 21, 32, 33, 34] [(0, .func (.yield b53) #[] #[]), (1, .pointer (some ⟨b58, 0, none⟩)), (2, .pointer (some ⟨b59, 0, none⟩)), (4, .pointer (some ⟨b63, 0, none⟩)), (5, .int .i64 t70), (19, undef), (20, undef), (21, undef), (32, .agg #[.int .i64 t174, .int .u16 t175, .int .u8 t176, .int .i64 t177, .int .i64 t178, .int .i64 t179]), (33, .bool t180), (34, .bool t181)] (by kernel_rfl) ?_
      refine RegI.op (by kernel_rfl) (OpE.box 7 26 [.int .i64 0, .int .u16 0, .int .u8 0, .int .i64 0, .int .i64 0, .int .i64 0] h172 (by kernel_rfl) (by kernel_rfl) ?_)
      intro w182 b183 h184 hb185 hn186
      refine RegI.op (by kernel_rfl) (OpE.storeBox 12 26 b183 0 (.agg #[.int .i64 t174, .int .u16 t175, .int .u8 t176, .int .i64 t177, .int .i64 t178, .int .i64 t179]) [.int .i64 t174, .int .u16 t175, .int .u8 t176, .int .i64 t177, .int .i64 t178, .int .i64 t179] h184 (by kernel_rfl) (by kernel_rfl) rfl (by kernel_rfl) (by kernel_rfl) (by kernel_rfl) ?_)
      intro w187 h188 hk189
      refine RegI.pure 2 [0, 1, 2, 4, 5, 7, 8, 9, 19, 20, 21] [(0, .func (.yield b53) #[] #[]), (1, .pointer (some ⟨b58, 0, none⟩)), (2, .pointer (some ⟨b59, 0, none⟩)), (4, .pointer (some ⟨b63, 0, none⟩)), (5, .int .i64 t70), (7, .pointer (some ⟨b183, 0, none⟩)), (8, .bool t180), (9, .bool t181), (19, undef), (20, undef), (21, undef)] (by kernel_rfl) ?_
      refine RegI.done (by kernel_rfl) ?_
      refine RunsI.go 1 [.c 15, .c 16, .blk 1, .c 29, .lp 6, .blk 0] (by kernel_rfl) ?_
      refine RunsI.region (by kernel_rfl) ?_
      refine RegI.pure 2 [0, 1, 2, 4, 5, 7, 9, 19, 20, 21, 36] [(0, .func (.yield b53) #[] #[]), (1, .pointer (some ⟨b58, 0, none⟩)), (2, .pointer (some ⟨b59, 0, none⟩)), (4, .pointer (some ⟨b63, 0, none⟩)), (5, .int .i64 t70), (7, .pointer (some ⟨b183, 0, none⟩)), (9, .bool t181), (19, undef), (20, undef), (21, undef), (36, .agg #[.string (⟨#[84, 87]⟩ : ByteArray), .bool t180])] (by kernel_rfl) ?_
      refine RegI.op (by kernel_rfl) (OpE.box 10 61 [.string ByteArray.empty, .bool false] h188 (by kernel_rfl) (by kernel_rfl) ?_)
      intro w190 b191 h192 hb193 hn194
      refine RegI.op (by kernel_rfl) (OpE.storeBox 13 61 b191 0 (.agg #[.string (⟨#[84, 87]⟩ : ByteArray), .bool t180]) [.string (⟨#[84, 87]⟩ : ByteArray), .bool t180] h192 (by kernel_rfl) (by kernel_rfl) rfl (by kernel_rfl) (by kernel_rfl) (by kernel_rfl) ?_)
      intro w195 h196 hk197
      refine RegI.done (by kernel_rfl) ?_
      refine RunsI.go 2 [.c 18, .c 19, .c 22, .blk 1, .c 29, .lp 6, .blk 0] (by kernel_rfl) ?_
      refine RunsI.region (by kernel_rfl) ?_
      refine RegI.pure 1 [0, 1, 2, 4, 5, 7, 9, 10, 19, 20, 21, 37] [(0, .func (.yield b53) #[] #[]), (1, .pointer (some ⟨b58, 0, none⟩)), (2, .pointer (some ⟨b59, 0, none⟩)), (4, .pointer (some ⟨b63, 0, none⟩)), (5, .int .i64 t70), (7, .pointer (some ⟨b183, 0, none⟩)), (9, .bool t181), (10, .pointer (some ⟨b191, 0, none⟩)), (19, undef), (20, undef), (21, undef), (37, .pointer (some ⟨b183, 4, none⟩))] (by kernel_rfl) ?_
      refine RegI.op (by kernel_rfl) (OpE.loadBox 38 12 3 b183 4 (.int .i64 t178) h196 (by kernel_rfl) (by kernel_rfl) rfl (by kernel_rfl) ?_)
      refine RegI.pure 1 [0, 1, 2, 4, 5, 7, 9, 10, 19, 20, 21, 38, 39] [(0, .func (.yield b53) #[] #[]), (1, .pointer (some ⟨b58, 0, none⟩)), (2, .pointer (some ⟨b59, 0, none⟩)), (4, .pointer (some ⟨b63, 0, none⟩)), (5, .int .i64 t70), (7, .pointer (some ⟨b183, 0, none⟩)), (9, .bool t181), (10, .pointer (some ⟨b191, 0, none⟩)), (19, undef), (20, undef), (21, undef), (38, .int .i64 t178), (39, .pointer (some ⟨b63, 4, none⟩))] (by kernel_rfl) ?_
      refine RegI.op (by kernel_rfl) (OpE.loadBox 40 6 3 b63 4 (.int .i64 t68) h196 (by kernel_rfl) (by kernel_rfl) rfl (by kernel_rfl) ?_)
      refine RegI.pure 1 [0, 1, 2, 4, 5, 7, 9, 10, 19, 20, 21, 41] [(0, .func (.yield b53) #[] #[]), (1, .pointer (some ⟨b58, 0, none⟩)), (2, .pointer (some ⟨b59, 0, none⟩)), (4, .pointer (some ⟨b63, 0, none⟩)), (5, .int .i64 t70), (7, .pointer (some ⟨b183, 0, none⟩)), (9, .bool t181), (10, .pointer (some ⟨b191, 0, none⟩)), (19, undef), (20, undef), (21, undef), (41, .bool (decide (t178 > t68)))] (by kernel_rfl) ?_
      refine RegI.done (by kernel_rfl) ?_
      obtain ⟨j210, hJ211, h⟩ := of_let h
      have hj212 : ∀ (t207 : ByteArray) (w209 : World), j210 t207 = some x → Holds M0 w0 w209 [rng F18 16 b53 [(6, .pointer (some ⟨b54, 0, none⟩)), (7, .pointer (some ⟨b56, 0, none⟩)), (15, .func (.func 58) #[] #[.pointer (some ⟨b58, 0, none⟩), .pointer (some ⟨b59, 0, none⟩)])] .ready none, box b54 3 [.int .i64 t55], box b56 3 [.int .i64 t57], box b58 24 [.int .i64 p0_0, .int .u16 p0_1, .int .u8 p0_2, .int .i64 p0_3], box b59 38 [.slice A164 ((cutL t62 (if (t62.length : Int) < 1 then (t62.length : Int) else 1) (t62.length : Int)).length) c165], sl Rp.bool (.slice A164 ((cutL t62 (if (t62.length : Int) < 1 then (t62.length : Int) else 1) (t62.length : Int)).length) c165) (cutL t62 (if (t62.length : Int) < 1 then (t62.length : Int) else 1) (t62.length : Int)), box b63 26 [.int .i64 t64, .int .u16 t65, .int .u8 t66, .int .i64 t67, .int .i64 t68, .int .i64 t69], box b183 26 [.int .i64 t174, .int .u16 t175, .int .u8 t176, .int .i64 t177, .int .i64 t178, .int .i64 t179], box b191 61 [.string t207, .bool t180], dfr b71, gl 0 (tab_0.flatMap en_0), gl 1 (tab_1.flatMap en_1), gl 2 (tab_2.flatMap en_2)] → RunsI F58 [.c 22, .blk 1, .c 29, .lp 6, .blk 0] [(0, .func (.yield b53) #[] #[]), (1, .pointer (some ⟨b58, 0, none⟩)), (2, .pointer (some ⟨b59, 0, none⟩)), (4, .pointer (some ⟨b63, 0, none⟩)), (5, .int .i64 t70), (7, .pointer (some ⟨b183, 0, none⟩)), (9, .bool t181), (10, .pointer (some ⟨b191, 0, none⟩))] w209 R := by
        intro t207 w209 h h208
        rw [hJ211] at h
        clear hJ211
        dsimp only at h
        refine RunsI.go 2 [.c 24, .c 25, .c 28, .blk 1, .c 29, .lp 6, .blk 0] (by kernel_rfl) ?_
        refine RunsI.region (by kernel_rfl) ?_
        refine RegI.pure 2 [0, 1, 2, 4, 5, 7, 9, 10, 48, 49] [(0, .func (.yield b53) #[] #[]), (1, .pointer (some ⟨b58, 0, none⟩)), (2, .pointer (some ⟨b59, 0, none⟩)), (4, .pointer (some ⟨b63, 0, none⟩)), (5, .int .i64 t70), (7, .pointer (some ⟨b183, 0, none⟩)), (9, .bool t181), (10, .pointer (some ⟨b191, 0, none⟩)), (48, .func (.yield b53) #[] #[]), (49, .int .i64 t70)] (by kernel_rfl) ?_
        refine RegI.op (by kernel_rfl) (OpE.loadBox 50 8 61 b191 0 (.agg #[.string t207, .bool t180]) h208 (by kernel_rfl) (by kernel_rfl) rfl (by kernel_rfl) ?_)
        refine RegI.yield 51 b53 16 0 [.int .i64 t70, .agg #[.string t207, .bool t180]] [0, 1, 2, 4, 5, 7, 9] [(0, .func (.yield b53) #[] #[]), (1, .pointer (some ⟨b58, 0, none⟩)), (2, .pointer (some ⟨b59, 0, none⟩)), (4, .pointer (some ⟨b63, 0, none⟩)), (5, .int .i64 t70), (7, .pointer (some ⟨b183, 0, none⟩)), (9, .bool t181)] h208 (by kernel_rfl) (by kernel_rfl) (by kernel_rfl) (by kernel_rfl) rfl (by kernel_rfl) (by kernel_rfl) (by kernel_rfl) [.c 17, .bg, .c 20] (by kernel_rfl) [(17, .agg #[.string t207, .bool t180]), (16, .int .i64 t70), (6, .pointer (some ⟨b54, 0, none⟩)), (7, .pointer (some ⟨b56, 0, none⟩)), (15, .func (.func 58) #[] #[.pointer (some ⟨b58, 0, none⟩), .pointer (some ⟨b59, 0, none⟩)])] (by kernel_rfl) ?_
        refine RunsI.only [6, 7, 16, 17] [(6, .pointer (some ⟨b54, 0, none⟩)), (7, .pointer (some ⟨b56, 0, none⟩)), (16, .int .i64 t70), (17, .agg #[.string t207, .bool t180])] (by kernel_rfl) (by kernel_rfl) ?_
        obtain ⟨j240, hJ241, h⟩ := of_let h
        have hj242 : ∀ (t237 : Int) (w239 : World), j240 t237 = some x → Holds M0 w0 w239 [rng F18 16 b53 [(6, .pointer (some ⟨b54, 0, none⟩)), (7, .pointer (some ⟨b56, 0, none⟩)), (15, .func (.func 58) #[] #[.pointer (some ⟨b58, 0, none⟩), .pointer (some ⟨b59, 0, none⟩)])] .ready none, box b54 3 [.int .i64 t70], box b56 3 [.int .i64 t237], box b58 24 [.int .i64 p0_0, .int .u16 p0_1, .int .u8 p0_2, .int .i64 p0_3], box b59 38 [.slice A164 ((cutL t62 (if (t62.length : Int) < 1 then (t62.length : Int) else 1) (t62.length : Int)).length) c165], sl Rp.bool (.slice A164 ((cutL t62 (if (t62.length : Int) < 1 then (t62.length : Int) else 1) (t62.length : Int)).length) c165) (cutL t62 (if (t62.length : Int) < 1 then (t62.length : Int) else 1) (t62.length : Int)), box b63 26 [.int .i64 t64, .int .u16 t65, .int .u8 t66, .int .i64 t67, .int .i64 t68, .int .i64 t69], box b183 26 [.int .i64 t174, .int .u16 t175, .int .u8 t176, .int .i64 t177, .int .i64 t178, .int .i64 t179], dfr b71, gl 0 (tab_0.flatMap en_0), gl 1 (tab_1.flatMap en_1), gl 2 (tab_2.flatMap en_2)] → RegI F58 24 [.c 25, .c 28, .blk 1, .c 29, .lp 6, .blk 0] 4 [(0, .func (.yield b53) #[] #[]), (1, .pointer (some ⟨b58, 0, none⟩)), (2, .pointer (some ⟨b59, 0, none⟩)), (4, .pointer (some ⟨b63, 0, none⟩)), (5, .int .i64 t70), (7, .pointer (some ⟨b183, 0, none⟩)), (9, .bool t181), (51, .bool true)] w239 R := by
          intro t237 w239 h h238
          rw [hJ241] at h
          clear hJ241
          dsimp only at h
          refine RegI.pure 4 [0, 1, 2, 4, 5, 7, 54, 55] [(0, .func (.yield b53) #[] #[]), (1, .pointer (some ⟨b58, 0, none⟩)), (2, .pointer (some ⟨b59, 0, none⟩)), (4, .pointer (some ⟨b63, 0, none⟩)), (5, .int .i64 t70), (7, .pointer (some ⟨b183, 0, none⟩)), (54, .bool t181), (55, .bool t181)] (by kernel_rfl) ?_
          refine RegI.done (by kernel_rfl) ?_
          rcases of_cond h with ⟨hc243, h⟩ | ⟨hc243, h⟩
          · skip
            refine RunsI.fix 55 true hc243 (by kernel_rfl) (by kernel_rfl) ?_
            refine RunsI.cond true 26 (by kernel_rfl) ?_
            refine RunsI.ret (.tuple #[]) (by kernel_rfl) (by kernel_rfl) ?_
            exact hk0 t70 t237 (cutL t62 (if (t62.length : Int) < 1 then (t62.length : Int) else 1) (t62.length : Int)) A164 c165 w239 (Option.some.inj h).symm (h238.pick [1, 2, 0, 3, 4, 5, 8, 9, 10, 11] (by decide))
          · skip
            refine RunsI.fix 55 false hc243 (by kernel_rfl) (by kernel_rfl) ?_
            refine RunsI.cond false 27 (by kernel_rfl) ?_
            refine RunsI.go 1 [.c 28, .blk 1, .c 29, .lp 6, .blk 0] (by kernel_rfl) ?_
            refine RunsI.region (by kernel_rfl) ?_
            refine RegI.op (by kernel_rfl) (OpE.loadBox 56 7 26 b183 0 (.agg #[.int .i64 t174, .int .u16 t175, .int .u8 t176, .int .i64 t177, .int .i64 t178, .int .i64 t179]) h238 (by kernel_rfl) (by kernel_rfl) rfl (by kernel_rfl) ?_)
            refine RegI.op (by kernel_rfl) (OpE.storeBox 6 26 b63 0 (.agg #[.int .i64 t174, .int .u16 t175, .int .u8 t176, .int .i64 t177, .int .i64 t178, .int .i64 t179]) [.int .i64 t174, .int .u16 t175, .int .u8 t176, .int .i64 t177, .int .i64 t178, .int .i64 t179] h238 (by kernel_rfl) (by kernel_rfl) rfl (by kernel_rfl) (by kernel_rfl) (by kernel_rfl) ?_)
            intro w244 h245 hk246
            refine RegI.done (by kernel_rfl) ?_
            refine RunsI.go 1 [.c 29, .lp 6, .blk 0] (by kernel_rfl) ?_
            refine RunsI.region (by kernel_rfl) ?_
            refine RegI.pure 3 [0, 1, 2, 4, 5, 54] [(0, .func (.yield b53) #[] #[]), (1, .pointer (some ⟨b58, 0, none⟩)), (2, .pointer (some ⟨b59, 0, none⟩)), (4, .pointer (some ⟨b63, 0, none⟩)), (5, .int .i64 (IntKind.wrap .i64 (t70 + 1))), (54, .bool t181)] (by kernel_rfl) ?_
            refine RegI.done (by kernel_rfl) ?_
            refine RunsI.go 1 [.c 6, .lp 6, .blk 0] (by kernel_rfl) ?_
            refine RunsI.only [0, 1, 2, 4, 5] [(0, .func (.yield b53) #[] #[]), (1, .pointer (some ⟨b58, 0, none⟩)), (2, .pointer (some ⟨b59, 0, none⟩)), (4, .pointer (some ⟨b63, 0, none⟩)), (5, .int .i64 (IntKind.wrap .i64 (t70 + 1)))] (by kernel_rfl) (by kernel_rfl) ?_
            exact ih t70 t237 (cutL t62 (if (t62.length : Int) < 1 then (t62.length : Int) else 1) (t62.length : Int)) t174 t175 t176 t177 t178 t179 (IntKind.wrap .i64 (t70 + 1)) A164 c165 w244 h (h245.pick [0, 1, 2, 3, 4, 5, 6, 8, 9, 10, 11] (by decide))
        clear hJ241
        refine RunsI.go 1 [.c 18, .c 19, .bg, .c 20] (by kernel_rfl) ?_
        refine RunsI.region (by kernel_rfl) ?_
        refine RegI.pure 1 [6, 7, 8, 17] [(6, .pointer (some ⟨b54, 0, none⟩)), (7, .pointer (some ⟨b56, 0, none⟩)), (8, .int .i64 t70), (17, .agg #[.string t207, .bool t180])] (by kernel_rfl) ?_
        refine RegI.done (by kernel_rfl) ?_
        refine RunsI.region (by kernel_rfl) ?_
        refine RegI.op (by kernel_rfl) (OpE.box 9 61 [.string ByteArray.empty, .bool false] h208 (by kernel_rfl) (by kernel_rfl) ?_)
        intro w213 b214 h215 hb216 hn217
        refine RegI.op (by kernel_rfl) (OpE.storeBox 13 61 b214 0 (.agg #[.string t207, .bool t180]) [.string t207, .bool t180] h215 (by kernel_rfl) (by kernel_rfl) rfl (by kernel_rfl) (by kernel_rfl) (by kernel_rfl) ?_)
        intro w218 h219 hk220
        refine RegI.done (by kernel_rfl) ?_
        refine RunsI.begin 0 h219 rfl rfl ?_
        intro w221 h222 hk223
        refine RunsI.go 2 [.c 22, .c 23, .blk 1] (by kernel_rfl) ?_
        refine RunsI.region (by kernel_rfl) ?_
        refine RegI.pure 1 [6, 7, 8, 9, 18] [(6, .pointer (some ⟨b54, 0, none⟩)), (7, .pointer (some ⟨b56, 0, none⟩)), (8, .int .i64 t70), (9, .pointer (some ⟨b214, 0, none⟩)), (18, .int .i64 t70)] (by kernel_rfl) ?_
        refine RegI.op (by kernel_rfl) (OpE.storeBox 1 3 b54 0 (.int .i64 t70) [.int .i64 t70] h222 (by kernel_rfl) (by kernel_rfl) rfl (by kernel_rfl) (by kernel_rfl) (by kernel_rfl) ?_)
        intro w224 h225 hk226
        refine RegI.done (by kernel_rfl) ?_
        refine RunsI.go 1 [.c 24, .c 25, .blk 1] (by kernel_rfl) ?_
        refine RunsI.region (by kernel_rfl) ?_
        refine RegI.pure 1 [7, 8, 19] [(7, .pointer (some ⟨b56, 0, none⟩)), (8, .int .i64 t70), (19, .pointer (some ⟨b214, 1, none⟩))] (by kernel_rfl) ?_
        refine RegI.op (by kernel_rfl) (OpE.loadBox 20 13 4 b214 1 (.bool t180) h225 (by kernel_rfl) (by kernel_rfl) rfl (by kernel_rfl) ?_)
        refine RegI.done (by kernel_rfl) ?_
        rcases of_cond h with ⟨hc227, h⟩ | ⟨hc227, h⟩
        · skip
          refine RunsI.fix 20 true hc227 (by kernel_rfl) (by kernel_rfl) ?_
          refine RunsI.cond true 26 (by kernel_rfl) ?_
          refine RunsI.region (by kernel_rfl) ?_
          refine RegI.pure 1 [7, 21] [(7, .pointer (some ⟨b56, 0, none⟩)), (21, .int .i64 t70)] (by kernel_rfl) ?_
          refine RegI.op (by kernel_rfl) (OpE.storeBox 2 3 b56 0 (.int .i64 t70) [.int .i64 t70] h225 (by kernel_rfl) (by kernel_rfl) rfl (by kernel_rfl) (by kernel_rfl) (by kernel_rfl) ?_)
          intro w228 h229 hk230
          refine RegI.done (by kernel_rfl) ?_
          refine RunsI.go 1 [] (by kernel_rfl) ?_
          refine RunsI.roundEnd 0 h229 rfl rfl ?_
          intro w231 h232 hk233
          refine cont_mk ?_
          refine RegI.only [0, 1, 2, 4, 5, 7, 9, 51] [(0, .func (.yield b53) #[] #[]), (1, .pointer (some ⟨b58, 0, none⟩)), (2, .pointer (some ⟨b59, 0, none⟩)), (4, .pointer (some ⟨b63, 0, none⟩)), (5, .int .i64 t70), (7, .pointer (some ⟨b183, 0, none⟩)), (9, .bool t181), (51, .bool true)] (by kernel_rfl) (by kernel_rfl) ?_
          exact hj242 t70 w231 h (h232.pick [0, 1, 2, 3, 4, 5, 6, 7, 9, 10, 11, 12] (by decide))
        · skip
          refine RunsI.fix 20 false hc227 (by kernel_rfl) (by kernel_rfl) ?_
          refine RunsI.cond false 27 (by kernel_rfl) ?_
          refine RunsI.go 1 [.blk 1] (by kernel_rfl) ?_
          refine RunsI.go 1 [] (by kernel_rfl) ?_
          refine RunsI.roundEnd 0 h225 rfl rfl ?_
          intro w234 h235 hk236
          refine cont_mk ?_
          refine RegI.only [0, 1, 2, 4, 5, 7, 9, 51] [(0, .func (.yield b53) #[] #[]), (1, .pointer (some ⟨b58, 0, none⟩)), (2, .pointer (some ⟨b59, 0, none⟩)), (4, .pointer (some ⟨b63, 0, none⟩)), (5, .int .i64 t70), (7, .pointer (some ⟨b183, 0, none⟩)), (9, .bool t181), (51, .bool true)] (by kernel_rfl) (by kernel_rfl) ?_
          exact hj242 t57 w234 h (h235.pick [0, 1, 2, 3, 4, 5, 6, 7, 9, 10, 11, 12] (by decide))
      clear hJ211
      rcases of_cond h with ⟨hc198, h⟩ | ⟨hc198, h⟩
      · skip
        refine RunsI.fix 41 true hc198 (by kernel_rfl) (by kernel_rfl) ?_
        refine RunsI.cond true 20 (by kernel_rfl) ?_
        refine RunsI.region (by kernel_rfl) ?_
        refine RegI.pure 1 [0, 1, 2, 4, 5, 7, 9, 10, 19, 20, 21, 42] [(0, .func (.yield b53) #[] #[]), (1, .pointer (some ⟨b58, 0, none⟩)), (2, .pointer (some ⟨b59, 0, none⟩)), (4, .pointer (some ⟨b63, 0, none⟩)), (5, .int .i64 t70), (7, .pointer (some ⟨b183, 0, none⟩)), (9, .bool t181), (10, .pointer (some ⟨b191, 0, none⟩)), (19, undef), (20, undef), (21, undef), (42, .pointer (some ⟨b58, 0, none⟩))] (by kernel_rfl) ?_
        refine RegI.op (by kernel_rfl) (OpE.loadBox 43 3 3 b58 0 (.int .i64 p0_0) h196 (by kernel_rfl) (by kernel_rfl) rfl (by kernel_rfl) ?_)
        refine RegI.pure 1 [0, 1, 2, 4, 5, 7, 9, 10, 19, 20, 21, 43, 44] [(0, .func (.yield b53) #[] #[]), (1, .pointer (some ⟨b58, 0, none⟩)), (2, .pointer (some ⟨b59, 0, none⟩)), (4, .pointer (some ⟨b63, 0, none⟩)), (5, .int .i64 t70), (7, .pointer (some ⟨b183, 0, none⟩)), (9, .bool t181), (10, .pointer (some ⟨b191, 0, none⟩)), (19, undef), (20, undef), (21, undef), (43, .int .i64 p0_0), (44, .pointer (some ⟨b183, 4, none⟩))] (by kernel_rfl) ?_
        refine RegI.op (by kernel_rfl) (OpE.loadBox 45 12 3 b183 4 (.int .i64 t178) h196 (by kernel_rfl) (by kernel_rfl) rfl (by kernel_rfl) ?_)
        obtain ⟨t203, hg202, h⟩ := of_bind h
        refine RegI.op (by kernel_rfl) (OpE.call 46 (by kernel_rfl) 59 #[.int .i64 p0_0, .int .i64 t178] (by kernel_rfl) ((cycle_name_59_ok K _ w195  p0_0 t178 h196.old' (h196.get 8 rfl) (h196.get 9 rfl) (h196.get 10 rfl) hg202).mono ?_))
        rintro _ w199 ⟨rfl, hb200⟩
        refine ⟨_, rfl, ?_⟩
        have h201 := h196.call hb200
        refine RegI.pure 1 [0, 1, 2, 4, 5, 7, 9, 10, 19, 20, 21, 46, 47] [(0, .func (.yield b53) #[] #[]), (1, .pointer (some ⟨b58, 0, none⟩)), (2, .pointer (some ⟨b59, 0, none⟩)), (4, .pointer (some ⟨b63, 0, none⟩)), (5, .int .i64 t70), (7, .pointer (some ⟨b183, 0, none⟩)), (9, .bool t181), (10, .pointer (some ⟨b191, 0, none⟩)), (19, undef), (20, undef), (21, undef), (46, .string t203), (47, .pointer (some ⟨b191, 0, none⟩))] (by kernel_rfl) ?_
        refine RegI.op (by kernel_rfl) (OpE.storeBox 13 9 b191 0 (.string t203) [.string t203, .bool t180] h201 (by kernel_rfl) (by kernel_rfl) rfl (by kernel_rfl) (by kernel_rfl) (by kernel_rfl) ?_)
        intro w204 h205 hk206
        refine RegI.done (by kernel_rfl) ?_
        refine RunsI.only [0, 1, 2, 4, 5, 7, 9, 10] [(0, .func (.yield b53) #[] #[]), (1, .pointer (some ⟨b58, 0, none⟩)), (2, .pointer (some ⟨b59, 0, none⟩)), (4, .pointer (some ⟨b63, 0, none⟩)), (5, .int .i64 t70), (7, .pointer (some ⟨b183, 0, none⟩)), (9, .bool t181), (10, .pointer (some ⟨b191, 0, none⟩))] (by kernel_rfl) (by kernel_rfl) ?_
        exact hj212 t203 w204 h (h205.pick [0, 1, 2, 3, 4, 11, 6, 12, 13, 7, 8, 9, 10] (by decide))
      · skip
        refine RunsI.fix 41 false hc198 (by kernel_rfl) (by kernel_rfl) ?_
        refine RunsI.cond false 21 (by kernel_rfl) ?_
        refine RunsI.go 1 [.c 22, .blk 1, .c 29, .lp 6, .blk 0] (by kernel_rfl) ?_
        refine RunsI.only [0, 1, 2, 4, 5, 7, 9, 10] [(0, .func (.yield b53) #[] #[]), (1, .pointer (some ⟨b58, 0, none⟩)), (2, .pointer (some ⟨b59, 0, none⟩)), (4, .pointer (some ⟨b63, 0, none⟩)), (5, .int .i64 t70), (7, .pointer (some ⟨b183, 0, none⟩)), (9, .bool t181), (10, .pointer (some ⟨b191, 0, none⟩))] (by kernel_rfl) (by kernel_rfl) ?_
        exact hj212 (⟨#[84, 87]⟩ : ByteArray) w195 h (h196.pick [0, 1, 2, 3, 4, 11, 6, 12, 13, 7, 8, 9, 10] (by decide))
def cycle_Take_18.f (K : Nat) (p0_0 : Int) (p0_1 : Int) (p0_2 : Int) (p0_3 : Int) (p1 : List Bool) : Option (Int × Int) := (cycle_Check_14.f K p0_0 p0_1 p0_2 p0_3).bind fun t10 => cond (t10 != 0) (some (0, 0)) ((cycle_Take_18.l0 K p0_0 p0_1 p0_2 p0_3 p1 K 0 0 p1 p0_0 p0_1 p0_2 p0_3 0 0 1).bind (fun yx252 => some (yx252.1, yx252.2.1)))
set_option maxRecDepth 100000 in
theorem cycle_Take_18_ok (K : Nat) (M0 : Nat → Prop) (w0 : World) (pA1 : Option Addr) (pc1 : Nat) (p0_0 : Int) (p0_1 : Int) (p0_2 : Int) (p0_3 : Int) (p1 : List Bool) (ho : ∀ b, M0 b → b < w0.heap.size) (hs1 : Sl Rp.bool w0 M0 (.slice pA1 p1.length pc1) p1) (hG0 : (gl 0 (tab_0.flatMap en_0)).ok w0 M0) (hG1 : (gl 1 (tab_1.flatMap en_1)).ok w0 M0) (hG2 : (gl 2 (tab_2.flatMap en_2)).ok w0 M0) {r : Int × Int} (h : cycle_Take_18.f K p0_0 p0_1 p0_2 p0_3 p1 = some r) :
    Calls Tryd.prog 18 #[.agg #[.int .i64 p0_0, .int .u16 p0_1, .int .u8 p0_2, .int .i64 p0_3], .slice pA1 p1.length pc1] w0 (cycle_Take_18.post M0 w0 r) := by
  unfold cycle_Take_18.f at h
  have h0 : Holds M0 w0 w0 [] := Holds.start ho
  have h01 := h0.addSl Rp.bool (.slice pA1 p1.length pc1) p1 (hs1.mono (fun _ _ hm => hm.elim id (fun hm => absurd hm (by simp [mines, sl]))))
  have h0g0 := h01.add (gl 0 (tab_0.flatMap en_0)) rfl ⟨hG0.1, fun hm => hG0.2.1 (hm.elim id (fun hm => absurd hm (by simp [mines, sl, gl]))), hG0.2.2⟩
  have h0g1 := h0g0.add (gl 1 (tab_1.flatMap en_1)) rfl ⟨hG1.1, fun hm => hG1.2.1 (hm.elim id (fun hm => absurd hm (by simp [mines, sl, gl]))), hG1.2.2⟩
  have h0g2 := h0g1.add (gl 2 (tab_2.flatMap en_2)) rfl ⟨hG2.1, fun hm => hG2.2.1 (hm.elim id (fun hm => absurd hm (by simp [mines, sl, gl]))), hG2.2.2⟩
  have h0 : Holds M0 w0 w0 [sl Rp.bool (.slice pA1 p1.length pc1) p1, gl 0 (tab_0.flatMap en_0), gl 1 (tab_1.flatMap en_1), gl 2 (tab_2.flatMap en_2)] := h0g2
  refine calls_of F18 rfl [.agg #[.int .i64 p0_0, .int .u16 p0_1, .int .u8 p0_2, .int .i64 p0_3], .slice pA1 p1.length pc1] (by kernel_rfl) ?_
  refine RunsI.go 1 [.c 1, .c 2] (by kernel_rfl) ?_
  refine RunsI.region (by kernel_rfl) ?_
  refine RegI.op (by kernel_rfl) (OpE.box 2 24 [.int .i64 p0_0, .int .u16 p0_1, .int .u8 p0_2, .int .i64 p0_3] h0 (by kernel_rfl) (by kernel_rfl) ?_)
  intro w1 b2 h3 hb4 hn5
  refine RegI.pure 2 [1, 2] [(1, .slice pA1 p1.length pc1), (2, .pointer (some ⟨b2, 0, none⟩))] (by kernel_rfl) ?_
  refine RegI.done (by kernel_rfl) ?_
  refine RunsI.go 2 [.c 4, .c 5, .c 10] (by kernel_rfl) ?_
  refine RunsI.region (by kernel_rfl) ?_
  refine RegI.op (by kernel_rfl) (OpE.loadBox 10 4 24 b2 0 (.agg #[.int .i64 p0_0, .int .u16 p0_1, .int .u8 p0_2, .int .i64 p0_3]) h3 (by kernel_rfl) (by kernel_rfl) rfl (by kernel_rfl) ?_)
  obtain ⟨t10, hg9, h⟩ := of_bind h
  refine RegI.op (by kernel_rfl) (OpE.call 11 (by kernel_rfl) 14 #[.agg #[.int .i64 p0_0, .int .u16 p0_1, .int .u8 p0_2, .int .i64 p0_3]] (by kernel_rfl) ((cycle_Check_14_ok K _ w1  p0_0 p0_1 p0_2 p0_3 h3.old' (h3.get 1 rfl) hg9).mono ?_))
  rintro _ w6 ⟨rfl, hb7⟩
  refine ⟨_, rfl, ?_⟩
  have h8 := h3.call hb7
  refine RegI.pure 1 [1, 2, 12] [(1, .slice pA1 p1.length pc1), (2, .pointer (some ⟨b2, 0, none⟩)), (12, .bool (t10 != 0))] (by kernel_rfl) ?_
  refine RegI.done (by kernel_rfl) ?_
  rcases of_cond h with ⟨hc11, h⟩ | ⟨hc11, h⟩
  · skip
    refine RunsI.fix 12 true hc11 (by kernel_rfl) (by kernel_rfl) ?_
    refine RunsI.cond true 6 (by kernel_rfl) ?_
    refine RunsI.go 1 [.c 7, .c 8, .c 10] (by kernel_rfl) ?_
    refine RunsI.region (by kernel_rfl) ?_
    refine RegI.pure 2 [4, 5] [(4, .int .i64 0), (5, .int .i64 0)] (by kernel_rfl) ?_
    refine RegI.done (by kernel_rfl) ?_
    refine RunsI.ret (.tuple #[.int .i64 0, .int .i64 0]) (by kernel_rfl) (by kernel_rfl) ?_
    obtain rfl := Option.some.inj h
    exact ⟨rfl, h8.below⟩
  · skip
    refine RunsI.fix 12 false hc11 (by kernel_rfl) (by kernel_rfl) ?_
    refine RunsI.cond false 9 (by kernel_rfl) ?_
    refine RunsI.go 1 [.c 10] (by kernel_rfl) ?_
    refine RunsI.go 1 [.c 11, .c 12] (by kernel_rfl) ?_
    refine RunsI.region (by kernel_rfl) ?_
    refine RegI.op (by kernel_rfl) (OpE.box 6 3 [.int .i64 0] h8 (by kernel_rfl) (by kernel_rfl) ?_)
    intro w12 b13 h14 hb15 hn16
    refine RegI.op (by kernel_rfl) (OpE.box 7 3 [.int .i64 0] h14 (by kernel_rfl) (by kernel_rfl) ?_)
    intro w17 b18 h19 hb20 hn21
    refine RegI.op (by kernel_rfl) (OpE.storeBox 5 3 b13 0 (.int .i64 0) [.int .i64 0] h19 (by kernel_rfl) (by kernel_rfl) rfl (by kernel_rfl) (by kernel_rfl) (by kernel_rfl) ?_)
    intro w22 h23 hk24
    refine RegI.op (by kernel_rfl) (OpE.storeBox 6 3 b18 0 (.int .i64 0) [.int .i64 0] h23 (by kernel_rfl) (by kernel_rfl) rfl (by kernel_rfl) (by kernel_rfl) (by kernel_rfl) ?_)
    intro w25 h26 hk27
    refine RegI.done (by kernel_rfl) ?_
    refine RunsI.go 2 [.c 14, .c 15, .c 28] (by kernel_rfl) ?_
    refine RunsI.region (by kernel_rfl) ?_
    refine RegI.op (by kernel_rfl) (OpE.loadBox 13 4 24 b2 0 (.agg #[.int .i64 p0_0, .int .u16 p0_1, .int .u8 p0_2, .int .i64 p0_3]) h26 (by kernel_rfl) (by kernel_rfl) rfl (by kernel_rfl) ?_)
    refine RegI.pure 1 [6, 7, 13, 14] [(6, .pointer (some ⟨b13, 0, none⟩)), (7, .pointer (some ⟨b18, 0, none⟩)), (13, .agg #[.int .i64 p0_0, .int .u16 p0_1, .int .u8 p0_2, .int .i64 p0_3]), (14, .slice pA1 p1.length pc1)] (by kernel_rfl) ?_
    refine RegI.enter 15 [6, 7] [(6, .pointer (some ⟨b13, 0, none⟩)), (7, .pointer (some ⟨b18, 0, none⟩))] (by kernel_rfl) (by kernel_rfl) (by kernel_rfl) (by kernel_rfl) F42 42 rfl [.agg #[.int .i64 p0_0, .int .u16 p0_1, .int .u8 p0_2, .int .i64 p0_3], .slice pA1 p1.length pc1] (by kernel_rfl) (by kernel_rfl) ?_
    refine RunsI.go 1 [.c 1, .c 2] (by kernel_rfl) ?_
    refine RunsI.region (by kernel_rfl) ?_
    refine RegI.op (by kernel_rfl) (OpE.box 2 24 [.int .i64 p0_0, .int .u16 p0_1, .int .u8 p0_2, .int .i64 p0_3] h26 (by kernel_rfl) (by kernel_rfl) ?_)
    intro w28 b29 h30 hb31 hn32
    refine RegI.op (by kernel_rfl) (OpE.box 3 38 [.slice pA1 p1.length pc1] h30 (by kernel_rfl) (by kernel_rfl) ?_)
    intro w33 b34 h35 hb36 hn37
    refine RegI.pure 1 [2, 3] [(2, .pointer (some ⟨b29, 0, none⟩)), (3, .pointer (some ⟨b34, 0, none⟩))] (by kernel_rfl) ?_
    refine RegI.done (by kernel_rfl) ?_
    refine RunsI.go 1 [.c 3, .c 4] (by kernel_rfl) ?_
    refine RunsI.region (by kernel_rfl) ?_
    refine RegI.pure 2 [4] [(4, .func (.func 58) #[] #[.pointer (some ⟨b29, 0, none⟩), .pointer (some ⟨b34, 0, none⟩)])] (by kernel_rfl) ?_
    refine RegI.done (by kernel_rfl) ?_
    refine RunsI.ret (.func (.func 58) #[] #[.pointer (some ⟨b29, 0, none⟩), .pointer (some ⟨b34, 0, none⟩)]) (by kernel_rfl) (by kernel_rfl) ?_
    refine cont_mk ?_
    refine RegI.done (by kernel_rfl) ?_
    refine RunsI.go 1 [.c 16, .blk 0, .c 28] (by kernel_rfl) ?_
    refine RunsI.rangeFunc (G := F58) [6, 7, 15] [(6, .pointer (some ⟨b13, 0, none⟩)), (7, .pointer (some ⟨b18, 0, none⟩)), (15, .func (.func 58) #[] #[.pointer (some ⟨b29, 0, none⟩), .pointer (some ⟨b34, 0, none⟩)])] 58 [.pointer (some ⟨b29, 0, none⟩), .pointer (some ⟨b34, 0, none⟩)] h35 (by kernel_rfl) (by kernel_rfl) (by kernel_rfl) (fun _ _ => by kernel_rfl) rfl rfl (by kernel_rfl) rfl rfl ?_
    intro b38 b39 w40 h41 hb42 hn43 hn44
    refine RunsI.go 1 [.c 1, .c 2] (by kernel_rfl) ?_
    refine RunsI.region (by kernel_rfl) ?_
    refine RegI.op (by kernel_rfl) (OpE.loadBox 11 7 24 b29 0 (.agg #[.int .i64 p0_0, .int .u16 p0_1, .int .u8 p0_2, .int .i64 p0_3]) h41 (by kernel_rfl) (by kernel_rfl) rfl (by kernel_rfl) ?_)
    refine RegI.pure 1 [0, 1, 2, 12] [(0, .func (.yield b39) #[] #[]), (1, .pointer (some ⟨b29, 0, none⟩)), (2, .pointer (some ⟨b34, 0, none⟩)), (12, .agg #[.int .i64 p0_0, .int .u16 p0_1, .int .u8 p0_2, .int .i64 p0_3, .int .i64 0, .int .i64 0])] (by kernel_rfl) ?_
    refine RegI.op (by kernel_rfl) (OpE.box 4 26 [.int .i64 0, .int .u16 0, .int .u8 0, .int .i64 0, .int .i64 0, .int .i64 0] h41 (by kernel_rfl) (by kernel_rfl) ?_)
    intro w45 b46 h47 hb48 hn49
    refine RegI.op (by kernel_rfl) (OpE.storeBox 11 26 b46 0 (.agg #[.int .i64 p0_0, .int .u16 p0_1, .int .u8 p0_2, .int .i64 p0_3, .int .i64 0, .int .i64 0]) [.int .i64 p0_0, .int .u16 p0_1, .int .u8 p0_2, .int .i64 p0_3, .int .i64 0, .int .i64 0] h47 (by kernel_rfl) (by kernel_rfl) rfl (by kernel_rfl) (by kernel_rfl) (by kernel_rfl) ?_)
    intro w50 h51 hk52
    refine RegI.done (by kernel_rfl) ?_
    refine RunsI.go 1 [.c 3, .c 4] (by kernel_rfl) ?_
    refine RunsI.region (by kernel_rfl) ?_
    refine RegI.pure 1 [0, 1, 2, 4, 5] [(0, .func (.yield b39) #[] #[]), (1, .pointer (some ⟨b29, 0, none⟩)), (2, .pointer (some ⟨b34, 0, none⟩)), (4, .pointer (some ⟨b46, 0, none⟩)), (5, .int .i64 1)] (by kernel_rfl) ?_
    refine RegI.done (by kernel_rfl) ?_
    refine RunsI.go 2 [.c 6, .lp 6, .blk 0] (by kernel_rfl) ?_
    obtain ⟨x252, hx253, h⟩ := of_bind h
    refine RunsI.only [0, 1, 2, 4, 5] [(0, .func (.yield b39) #[] #[]), (1, .pointer (some ⟨b29, 0, none⟩)), (2, .pointer (some ⟨b34, 0, none⟩)), (4, .pointer (some ⟨b46, 0, none⟩)), (5, .int .i64 1)] (by kernel_rfl) (by kernel_rfl) ?_
    refine cycle_Take_18.l0_ok K M0 w0 pA1 pc1 p0_0 p0_1 p0_2 p0_3 p1 b39 b13 b18 b29 b34 b46 b38 _ x252 ?_ K 0 0 p1 p0_0 p0_1 p0_2 p0_3 0 0 1 pA1 pc1 w50 hx253 (h51.pick [10, 5, 6, 7, 8, 0, 11, 9, 1, 2, 3] (by decide))
    · intro t254 t255 t258 A256 c257 w260 hq274 h259
      (try rw [hq274] at h)
      dsimp only at h
      refine contR_mk ?_
      refine RunsI.endLoop 2 h259 rfl rfl (by intro hh; cases hh) [.blk 0, .c 28] (by kernel_rfl) ?_
      intro w261 h262 hk263
      refine RunsI.go 2 [.c 29, .c 30] (by kernel_rfl) ?_
      refine RunsI.any 4 (by kernel_rfl) (by kernel_rfl) (by kernel_rfl) (Kp ([] : List Nat) (World.drew w261)) ?_
      have h265 := h262.drew
      generalize World.drew w261 = w264 at h265 ⊢
      have hS266 := Kp.refl ([] : List Nat) w264
      refine AnyE.loadBox 0 22 0 3 b13 0 (.int .i64 t254) [] h265 rfl (by kernel_rfl) hS266 rfl rfl (by kernel_rfl) (by kernel_rfl) ?_
      refine AnyE.loadBox 1 23 1 3 b18 0 (.int .i64 t255) [] h265 rfl (by kernel_rfl) hS266 rfl rfl (by kernel_rfl) (by kernel_rfl) ?_
      refine AnyE.pure 2 4 (.int .i64 t254) (by kernel_rfl) hS266 (fun _ => by kernel_rfl) ?_
      refine AnyE.pure 3 5 (.int .i64 t255) (by kernel_rfl) hS266 (fun _ => by kernel_rfl) ?_
      refine AnyE.done (by kernel_rfl) (fun w268 hu269 => ?_)
      have h270 := h265.call hu269
      refine RunsI.only [4, 5] [(4, .int .i64 t254), (5, .int .i64 t255)] (by kernel_rfl) (by kernel_rfl) ?_
      refine RunsI.toRet (by kernel_rfl) ?_
      refine RetI.takeH 6 b38 h270 rfl ?_
      intro w271 h272 hk273
      refine RetI.val (.tuple #[.int .i64 t254, .int .i64 t255]) (by kernel_rfl) ?_
      obtain rfl := Option.some.inj h
      exact ⟨rfl, h272.below⟩
end

/-! ### charabanc/charabancref09.Same (function 20) -/
section
def charabancref09_Same_20.post (M0 : Nat → Prop) (w0 : World) (r : Bool) : Ending → World → Prop := fun e w => e = .returned (.bool r) ∧ Below w0.heap.size w0 w
def charabancref09_Same_20.l0 (K : Nat) (p0 : List ByteArray) (p1 : List ByteArray) : Nat → Int → Option (Lp Unit Unit)
  | 0, _ => none
  | k + 1, t2 => cond (decide (t2 < (p0.length : Int))) (cond (inR t2 p0.length) (cond (inR t2 p1.length) (cond (!((ByteArray.toList (rdD p0 t2)) == (ByteArray.toList (rdD p1 t2)))) (some (Lp.ret ())) (charabancref09_Same_20.l0 K p0 p1 k (IntKind.wrap .i64 (t2 + 1)))) none) none) (some (Lp.go ()))
set_option maxRecDepth 100000 in
theorem charabancref09_Same_20.l0_ok (K : Nat) (M0 : Nat → Prop) (w0 : World) (pA0 : Option Addr) (pc0 : Nat) (pA1 : Option Addr) (pc1 : Nat) (p0 : List ByteArray) (p1 : List ByteArray) (R : Ending → World → Prop) (x : Lp Unit Unit) (hk0 : ∀ (w1 : World), x = Lp.go () → Holds M0 w0 w1 [] → RunsI F20 [.c 31] [] w1 R) (hk1 : ∀ (w1 : World), x = Lp.ret () → Holds M0 w0 w1 [] → R (.returned (.bool false)) w1) :
    ∀ (k : Nat) (t2 : Int) (w : World), charabancref09_Same_20.l0 K p0 p1 k t2 = some x → Holds M0 w0 w [sl Rp.str (.slice pA0 p0.length pc0) p0, sl Rp.str (.slice pA1 p1.length pc1) p1] → RunsI F20 [.c 15, .lp 15, .blk 0, .c 31] [(0, .slice pA0 p0.length pc0), (1, .slice pA1 p1.length pc1), (5, .int .i64 t2)] w R := by
  intro k
  induction k with
  | zero => intro t2 w h hH; exact absurd h (by simp [charabancref09_Same_20.l0])
  | succ k ih =>
    intro t2 w h hH
    rw [charabancref09_Same_20.l0.eq_2] at h
    refine RunsI.go 1 [.c 16, .c 21, .lp 15, .blk 0, .c 31] (by kernel_rfl) ?_
    refine RunsI.go 1 [.c 17, .c 18, .c 21, .lp 15, .blk 0, .c 31] (by kernel_rfl) ?_
    refine RunsI.region (by kernel_rfl) ?_
    refine RegI.pure 4 [0, 1, 5, 14] [(0, .slice pA0 p0.length pc0), (1, .slice pA1 p1.length pc1), (5, .int .i64 t2), (14, .bool (decide (t2 < (p0.length : Int))))] (by kernel_rfl) ?_
    refine RegI.done (by kernel_rfl) ?_
    rcases of_cond h with ⟨hc3, h⟩ | ⟨hc3, h⟩
    · skip
      refine RunsI.fix 14 true hc3 (by kernel_rfl) (by kernel_rfl) ?_
      refine RunsI.cond true 19 (by kernel_rfl) ?_
      refine RunsI.go 1 [.c 21, .lp 15, .blk 0, .c 31] (by kernel_rfl) ?_
      refine RunsI.go 3 [.c 24, .c 25, .blk 1, .c 30, .lp 15, .blk 0, .c 31] (by kernel_rfl) ?_
      refine RunsI.any 9 (by kernel_rfl) (by kernel_rfl) (by kernel_rfl) (Kp ([] : List Nat) (World.drew w)) ?_
      have h5 := hH.drew
      generalize World.drew w = w4 at h5 ⊢
      have hS6 := Kp.refl ([] : List Nat) w4
      refine AnyE.pure 0 17 (.slice pA0 p0.length pc0) (by kernel_rfl) hS6 (fun _ => by kernel_rfl) ?_
      refine AnyE.pure 1 18 (.int .i64 t2) (by kernel_rfl) hS6 (fun _ => by kernel_rfl) ?_
      obtain ⟨hc8, h⟩ := of_cond0 h
      refine AnyE.idxSl 2 19 0 42 t2 h5 (by kernel_rfl) hS6 rfl (by kernel_rfl) (by kernel_rfl) hc8 ?_
      intro b9 o10 cs11 hk12 h13
      obtain rfl := hk12
      refine AnyE.loadCel 3 20 2 9 b9 o10 0 (.string (rdD p0 t2)) [] h13 rfl (by kernel_rfl) hS6 rfl rfl (by kernel_rfl) (by kernel_rfl) ?_
      refine AnyE.pure 4 21 (.slice pA1 p1.length pc1) (by kernel_rfl) hS6 (fun _ => by kernel_rfl) ?_
      refine AnyE.pure 5 22 (.int .i64 t2) (by kernel_rfl) hS6 (fun _ => by kernel_rfl) ?_
      obtain ⟨hc14, h⟩ := of_cond0 h
      refine AnyE.idxSl 6 23 1 42 t2 h13 (by kernel_rfl) hS6 rfl (by kernel_rfl) (by kernel_rfl) hc14 ?_
      intro b15 o16 cs17 hk18 h19
      obtain rfl := hk18
      refine AnyE.loadCel 7 24 3 9 b15 o16 0 (.string (rdD p1 t2)) [] h19 rfl (by kernel_rfl) hS6 rfl rfl (by kernel_rfl) (by kernel_rfl) ?_
      refine AnyE.pure 8 25 (.bool (!((ByteArray.toList (rdD p0 t2)) == (ByteArray.toList (rdD p1 t2))))) (by kernel_rfl) hS6 (fun _ => by kernel_rfl) ?_
      refine AnyE.done (by kernel_rfl) (fun w20 hu21 => ?_)
      have h22 := h19.call hu21
      refine RunsI.only [0, 1, 5, 25] [(0, .slice pA0 p0.length pc0), (1, .slice pA1 p1.length pc1), (5, .int .i64 t2), (25, .bool (!((ByteArray.toList (rdD p0 t2)) == (ByteArray.toList (rdD p1 t2)))))] (by kernel_rfl) (by kernel_rfl) ?_
      rcases of_cond h with ⟨hc23, h⟩ | ⟨hc23, h⟩
      · skip
        refine RunsI.fix 25 true hc23 (by kernel_rfl) (by kernel_rfl) ?_
        refine RunsI.cond true 26 (by kernel_rfl) ?_
        refine RunsI.go 1 [.c 27, .c 28, .blk 1, .c 30, .lp 15, .blk 0, .c 31] (by kernel_rfl) ?_
        refine RunsI.region (by kernel_rfl) ?_
        refine RegI.pure 1 [4] [(4, .bool false)] (by kernel_rfl) ?_
        refine RegI.done (by kernel_rfl) ?_
        refine RunsI.ret (.bool false) (by kernel_rfl) (by kernel_rfl) ?_
        exact hk1 w20 (Option.some.inj h).symm (h22.pick [] (by decide))
      · skip
        refine RunsI.fix 25 false hc23 (by kernel_rfl) (by kernel_rfl) ?_
        refine RunsI.cond false 29 (by kernel_rfl) ?_
        refine RunsI.go 1 [.blk 1, .c 30, .lp 15, .blk 0, .c 31] (by kernel_rfl) ?_
        refine RunsI.go 1 [.c 30, .lp 15, .blk 0, .c 31] (by kernel_rfl) ?_
        refine RunsI.region (by kernel_rfl) ?_
        refine RegI.pure 3 [0, 1, 5] [(0, .slice pA0 p0.length pc0), (1, .slice pA1 p1.length pc1), (5, .int .i64 (IntKind.wrap .i64 (t2 + 1)))] (by kernel_rfl) ?_
        refine RegI.done (by kernel_rfl) ?_
        refine RunsI.go 1 [.c 15, .lp 15, .blk 0, .c 31] (by kernel_rfl) ?_
        refine RunsI.only [0, 1, 5] [(0, .slice pA0 p0.length pc0), (1, .slice pA1 p1.length pc1), (5, .int .i64 (IntKind.wrap .i64 (t2 + 1)))] (by kernel_rfl) (by kernel_rfl) ?_
        exact ih (IntKind.wrap .i64 (t2 + 1)) w20 h (h22.pick [0, 1] (by decide))
    · skip
      refine RunsI.fix 14 false hc3 (by kernel_rfl) (by kernel_rfl) ?_
      refine RunsI.cond false 20 (by kernel_rfl) ?_
      refine RunsI.go 1 [.c 31] (by kernel_rfl) ?_
      refine RunsI.only [] [] (by kernel_rfl) (by kernel_rfl) ?_
      exact hk0 w (Option.some.inj h).symm (hH.pick [] (by decide))
def charabancref09_Same_20.f (K : Nat) (p0 : List ByteArray) (p1 : List ByteArray) : Option Bool := cond ((p0.length : Int) != (p1.length : Int)) (some false) ((charabancref09_Same_20.l0 K p0 p1 K 0).bind (fun x24 => Lp.elim x24 (fun _ => some false) (fun _ => some true)))
set_option maxRecDepth 100000 in
theorem charabancref09_Same_20_ok (K : Nat) (M0 : Nat → Prop) (w0 : World) (pA0 : Option Addr) (pc0 : Nat) (pA1 : Option Addr) (pc1 : Nat) (p0 : List ByteArray) (p1 : List ByteArray) (ho : ∀ b, M0 b → b < w0.heap.size) (hs0 : Sl Rp.str w0 M0 (.slice pA0 p0.length pc0) p0) (hs1 : Sl Rp.str w0 M0 (.slice pA1 p1.length pc1) p1) {r : Bool} (h : charabancref09_Same_20.f K p0 p1 = some r) :
    Calls Tryd.prog 20 #[.slice pA0 p0.length pc0, .slice pA1 p1.length pc1] w0 (charabancref09_Same_20.post M0 w0 r) := by
  unfold charabancref09_Same_20.f at h
  have h0 : Holds M0 w0 w0 [] := Holds.start ho
  have h00 := h0.addSl Rp.str (.slice pA0 p0.length pc0) p0 (hs0.mono (fun _ _ hm => hm.elim id (fun hm => absurd hm (by simp [mines, sl]))))
  have h01 := h00.addSl Rp.str (.slice pA1 p1.length pc1) p1 (hs1.mono (fun _ _ hm => hm.elim id (fun hm => absurd hm (by simp [mines, sl]))))
  have h0 : Holds M0 w0 w0 [sl Rp.str (.slice pA0 p0.length pc0) p0, sl Rp.str (.slice pA1 p1.length pc1) p1] := h01
  refine calls_of F20 rfl [.slice pA0 p0.length pc0, .slice pA1 p1.length pc1] (by kernel_rfl) ?_
  refine RunsI.go 1 [.c 1, .c 2] (by kernel_rfl) ?_
  refine RunsI.region (by kernel_rfl) ?_
  refine RegI.pure 1 [0, 1] [(0, .slice pA0 p0.length pc0), (1, .slice pA1 p1.length pc1)] (by kernel_rfl) ?_
  refine RegI.done (by kernel_rfl) ?_
  refine RunsI.go 2 [.c 4, .c 5, .c 10] (by kernel_rfl) ?_
  refine RunsI.region (by kernel_rfl) ?_
  refine RegI.pure 5 [0, 1, 10] [(0, .slice pA0 p0.length pc0), (1, .slice pA1 p1.length pc1), (10, .bool ((p0.length : Int) != (p1.length : Int)))] (by kernel_rfl) ?_
  refine RegI.done (by kernel_rfl) ?_
  rcases of_cond h with ⟨hc1, h⟩ | ⟨hc1, h⟩
  · skip
    refine RunsI.fix 10 true hc1 (by kernel_rfl) (by kernel_rfl) ?_
    refine RunsI.cond true 6 (by kernel_rfl) ?_
    refine RunsI.go 1 [.c 7, .c 8, .c 10] (by kernel_rfl) ?_
    refine RunsI.region (by kernel_rfl) ?_
    refine RegI.pure 1 [4] [(4, .bool false)] (by kernel_rfl) ?_
    refine RegI.done (by kernel_rfl) ?_
    refine RunsI.ret (.bool false) (by kernel_rfl) (by kernel_rfl) ?_
    obtain rfl := Option.some.inj h
    exact ⟨rfl, h0.below⟩
  · skip
    refine RunsI.fix 10 false hc1 (by kernel_rfl) (by kernel_rfl) ?_
    refine RunsI.cond false 9 (by kernel_rfl) ?_
    refine RunsI.go 1 [.c 10] (by kernel_rfl) ?_
    refine RunsI.go 2 [.c 12, .c 13, .c 31] (by kernel_rfl) ?_
    refine RunsI.region (by kernel_rfl) ?_
    refine RegI.pure 1 [0, 1, 5] [(0, .slice pA0 p0.length pc0), (1, .slice pA1 p1.length pc1), (5, .int .i64 0)] (by kernel_rfl) ?_
    refine RegI.done (by kernel_rfl) ?_
    refine RunsI.go 2 [.c 15, .lp 15, .blk 0, .c 31] (by kernel_rfl) ?_
    obtain ⟨x24, hx25, h⟩ := of_bind h
    refine RunsI.only [0, 1, 5] [(0, .slice pA0 p0.length pc0), (1, .slice pA1 p1.length pc1), (5, .int .i64 0)] (by kernel_rfl) (by kernel_rfl) ?_
    refine charabancref09_Same_20.l0_ok K M0 w0 pA0 pc0 pA1 pc1 p0 p1 _ x24 ?_ ?_ K 0 w0 hx25 (h0.pick [0, 1] (by decide))
    · intro w27 hq30 h26
      (try rw [hq30] at h)
      dsimp only [Lp.elim] at h
      refine RunsI.go 1 [.c 32, .c 33] (by kernel_rfl) ?_
      refine RunsI.region (by kernel_rfl) ?_
      refine RegI.pure 1 [4] [(4, .bool true)] (by kernel_rfl) ?_
      refine RegI.done (by kernel_rfl) ?_
      refine RunsI.ret (.bool true) (by kernel_rfl) (by kernel_rfl) ?_
      obtain rfl := Option.some.inj h
      exact ⟨rfl, h26.below⟩
    · intro w29 hq31 h28
      (try rw [hq31] at h)
      dsimp only [Lp.elim] at h
      obtain rfl := Option.some.inj h
      exact ⟨rfl, h28.below⟩
end

/-! ### charabanc/cycle.Names (function 21) -/
section
def cycle_Names_21.post (M0 : Nat → Prop) (w0 : World) (r : (List ByteArray)) : Ending → World → Prop := fun e w => ∃ (A1 : Option Addr) (c1 : Nat), e = .returned (.slice A1 r.length c1) ∧ Holds M0 w0 w [own Rp.str 9 (.slice A1 r.length c1) r]
def cycle_Names_21.l0 (K : Nat) (p0_0 : Int) (p0_1 : Int) (p0_2 : Int) (p0_3 : Int) (p1 : List Bool) : Nat → (List ByteArray) → (List Bool) → Int → Int → Int → Int → Int → Int → Int → Option ((List ByteArray) × (List Bool))
  | 0, _, _, _, _, _, _, _, _, _ => none
  | k + 1, t47, t52, t54, t55, t56, t57, t58, t59, t60 => cond (decide ((t52.length : Int) > 0)) (cond (inR 0 t52.length) (cond (cutR (if (t52.length : Int) < 1 then (t52.length : Int) else 1) (t52.length : Int) t52.length) ((cycle_Tick_11.f K t54 t55 t56 t57 t58 t59 (rdD t52 0)).bind fun yt80 => Let (fun (t113 : ByteArray) => cond (mayBe (t47.length + ([t113] : List ByteArray).length) 16) (cond yt80.2.2.2.2.2.2.2 (some ((t47 ++ ([t113] : List ByteArray)), (cutL t52 (if (t52.length : Int) < 1 then (t52.length : Int) else 1) (t52.length : Int)))) (cycle_Names_21.l0 K p0_0 p0_1 p0_2 p0_3 p1 k (t47 ++ ([t113] : List ByteArray)) (cutL t52 (if (t52.length : Int) < 1 then (t52.length : Int) else 1) (t52.length : Int)) yt80.1 yt80.2.1 yt80.2.2.1 yt80.2.2.2.1 yt80.2.2.2.2.1 yt80.2.2.2.2.2.1 (IntKind.wrap .i64 (t60 + 1)))) none) (fun j116 => cond (decide (yt80.2.2.2.2.1 > t58)) ((cycle_name_59.f K p0_0 yt80.2.2.2.2.1).bind fun t109 => j116 t109) (j116 (⟨#[84, 87]⟩ : ByteArray)))) none) none) (cond (cutR (if (t52.length : Int) < 1 then (t52.length : Int) else 1) (t52.length : Int) t52.length) ((cycle_Tick_11.f K t54 t55 t56 t57 t58 t59 false).bind fun yt162 => Let (fun (t195 : ByteArray) => cond (mayBe (t47.length + ([t195] : List ByteArray).length) 16) (cond yt162.2.2.2.2.2.2.2 (some ((t47 ++ ([t195] : List ByteArray)), (cutL t52 (if (t52.length : Int) < 1 then (t52.length : Int) else 1) (t52.length : Int)))) (cycle_Names_21.l0 K p0_0 p0_1 p0_2 p0_3 p1 k (t47 ++ ([t195] : List ByteArray)) (cutL t52 (if (t52.length : Int) < 1 then (t52.length : Int) else 1) (t52.length : Int)) yt162.1 yt162.2.1 yt162.2.2.1 yt162.2.2.2.1 yt162.2.2.2.2.1 yt162.2.2.2.2.2.1 (IntKind.wrap .i64 (t60 + 1)))) none) (fun j198 => cond (decide (yt162.2.2.2.2.1 > t58)) ((cycle_name_59.f K p0_0 yt162.2.2.2.2.1).bind fun t191 => j198 t191) (j198 (⟨#[84, 87]⟩ : ByteArray)))) none)
set_option maxRecDepth 100000 in
theorem cycle_Names_21.l0_ok (K : Nat) (M0 : Nat → Prop) (w0 : World) (pA1 : Option Addr) (pc1 : Nat) (p0_0 : Int) (p0_1 : Int) (p0_2 : Int) (p0_3 : Int) (p1 : List Bool) (b43 : Nat) (b44 : Nat) (b48 : Nat) (b49 : Nat) (b53 : Nat) (b61 : Nat) (R : Ending → World → Prop) (x : (List ByteArray) × (List Bool)) (hk0 : ∀ (t235 : List ByteArray) (t238 : List Bool) (A233 : Option Addr) (c234 : Nat) (A236 : Option Addr) (c237 : Nat) (w1 : World), x = (t235, t238) → Holds M0 w0 w1 [box b44 42 [.slice A233 t235.length c234], own Rp.str 9 (.slice A233 t235.length c234) t235, rng F21 16 b43 [(5, .pointer (some ⟨b44, 0, none⟩)), (13, .func (.func 58) #[] #[.pointer (some ⟨b48, 0, none⟩), .pointer (some ⟨b49, 0, none⟩)])] .ready none, box b48 24 [.int .i64 p0_0, .int .u16 p0_1, .int .u8 p0_2, .int .i64 p0_3], box b49 38 [.slice A236 t238.length c237], sl Rp.bool (.slice A236 t238.length c237) t238, dfr b61, gl 0 (tab_0.flatMap en_0), gl 1 (tab_1.flatMap en_1), gl 2 (tab_2.flatMap en_2)] → R (.returned (.tuple #[])) w1) :
    ∀ (k : Nat) (t47 : List ByteArray) (t52 : List Bool) (t54 : Int) (t55 : Int) (t56 : Int) (t57 : Int) (t58 : Int) (t59 : Int) (t60 : Int) (A45 : Option Addr) (c46 : Nat) (A50 : Option Addr) (c51 : Nat) (w : World), cycle_Names_21.l0 K p0_0 p0_1 p0_2 p0_3 p1 k t47 t52 t54 t55 t56 t57 t58 t59 t60 = some x → Holds M0 w0 w [rng F21 16 b43 [(5, .pointer (some ⟨b44, 0, none⟩)), (13, .func (.func 58) #[] #[.pointer (some ⟨b48, 0, none⟩), .pointer (some ⟨b49, 0, none⟩)])] .ready none, box b44 42 [.slice A45 t47.length c46], own Rp.str 9 (.slice A45 t47.length c46) t47, box b48 24 [.int .i64 p0_0, .int .u16 p0_1, .int .u8 p0_2, .int .i64 p0_3], box b49 38 [.slice A50 t52.length c51], sl Rp.bool (.slice A50 t52.length c51) t52, box b53 26 [.int .i64 t54, .int .u16 t55, .int .u8 t56, .int .i64 t57, .int .i64 t58, .int .i64 t59], dfr b61, gl 0 (tab_0.flatMap en_0), gl 1 (tab_1.flatMap en_1), gl 2 (tab_2.flatMap en_2)] → RunsI F58 [.c 6, .lp 6, .blk 0] [(0, .func (.yield b43) #[] #[]), (1, .pointer (some ⟨b48, 0, none⟩)), (2, .pointer (some ⟨b49, 0, none⟩)), (4, .pointer (some ⟨b53, 0, none⟩)), (5, .int .i64 t60)] w R := by
  intro k
  induction k with
  | zero => intro t47 t52 t54 t55 t56 t57 t58 t59 t60 A45 c46 A50 c51 w h hH; exact absurd h (by simp [cycle_Names_21.l0])
  | succ k ih =>
    intro t47 t52 t54 t55 t56 t57 t58 t59 t60 A45 c46 A50 c51 w h hH
    rw [cycle_Names_21.l0.eq_2] at h
    refine RunsI.go 1 [.c 7, .c 29, .lp 6, .blk 0] (by kernel_rfl) ?_
    refine RunsI.go 2 [.c 9, .c 10, .blk 1, .c 29, .lp 6, .blk 0] (by kernel_rfl) ?_
    refine RunsI.region (by kernel_rfl) ?_
    refine RegI.op (by kernel_rfl) (OpE.loadBox 15 4 38 b49 0 (.slice A50 t52.length c51) hH (by kernel_rfl) (by kernel_rfl) rfl (by kernel_rfl) ?_)
    refine RegI.pure 3 [0, 1, 2, 4, 5, 18] [(0, .func (.yield b43) #[] #[]), (1, .pointer (some ⟨b48, 0, none⟩)), (2, .pointer (some ⟨b49, 0, none⟩)), (4, .pointer (some ⟨b53, 0, none⟩)), (5, .int .i64 t60), (18, .bool (decide ((t52.length : Int) > 0)))] (by kernel_rfl) ?_
    rcases of_cond h with ⟨hc62, h⟩ | ⟨hc62, h⟩
    · skip
      refine RegI.fix 18 true hc62 (by kernel_rfl) (by kernel_rfl) ?_
      refine RegI.op (by kernel_rfl) (OpE.loadBox 19 4 38 b49 0 (.slice A50 t52.length c51) hH (by kernel_rfl) (by kernel_rfl) rfl (by kernel_rfl) ?_)
      obtain ⟨hc63, h⟩ := of_cond0 h
      refine RegI.op (by kernel_rfl) (OpE.idxSl 20 5 38 0 hH (by kernel_rfl) rfl (by kernel_rfl) (by kernel_rfl) hc63 ?_)
      intro b64 o65 cs66 hk67 h68
      obtain rfl := hk67
      refine RegI.op (by kernel_rfl) (OpE.loadCel 21 11 4 b64 o65 0 (.bool (rdD t52 0)) h68 (by kernel_rfl) (by kernel_rfl) rfl (by kernel_rfl) ?_)
      refine RegI.pure 2 [0, 1, 2, 4, 5, 6, 19, 20, 21] [(0, .func (.yield b43) #[] #[]), (1, .pointer (some ⟨b48, 0, none⟩)), (2, .pointer (some ⟨b49, 0, none⟩)), (4, .pointer (some ⟨b53, 0, none⟩)), (5, .int .i64 t60), (6, .bool (rdD t52 0)), (19, .slice A50 t52.length c51), (20, .pointer (some ⟨b64, o65, none⟩)), (21, .bool (rdD t52 0))] (by kernel_rfl) ?_
      refine RegI.done (by kernel_rfl) ?_
      refine RunsI.go 1 [.c 11, .c 12, .blk 1, .c 29, .lp 6, .blk 0] (by kernel_rfl) ?_
      refine RunsI.region (by kernel_rfl) ?_
      refine RegI.op (by kernel_rfl) (OpE.loadBox 23 4 38 b49 0 (.slice A50 t52.length c51) h68 (by kernel_rfl) (by kernel_rfl) rfl (by kernel_rfl) ?_)
      refine RegI.op (by kernel_rfl) (OpE.loadBox 24 4 38 b49 0 (.slice A50 t52.length c51) h68 (by kernel_rfl) (by kernel_rfl) rfl (by kernel_rfl) ?_)
      refine RegI.pure 2 [0, 1, 2, 4, 5, 6, 19, 20, 21, 23, 26] [(0, .func (.yield b43) #[] #[]), (1, .pointer (some ⟨b48, 0, none⟩)), (2, .pointer (some ⟨b49, 0, none⟩)), (4, .pointer (some ⟨b53, 0, none⟩)), (5, .int .i64 t60), (6, .bool (rdD t52 0)), (19, .slice A50 t52.length c51), (20, .pointer (some ⟨b64, o65, none⟩)), (21, .bool (rdD t52 0)), (23, .slice A50 t52.length c51), (26, .int .i64 (if (t52.length : Int) < 1 then (t52.length : Int) else 1))] (by kernel_rfl) ?_
      obtain ⟨hc69, h⟩ := of_cond0 h
      refine RegI.op (by kernel_rfl) (OpE.cutSl 27 5 38 (some (if (t52.length : Int) < 1 then (t52.length : Int) else 1)) none h68 (by kernel_rfl) rfl (by kernel_rfl) (by kernel_rfl) hc69 ?_)
      intro A70 c71 h72
      refine RegI.op (by kernel_rfl) (OpE.storeBox 4 38 b49 0 (.slice A70 ((cutL t52 (if (t52.length : Int) < 1 then (t52.length : Int) else 1) (t52.length : Int)).length) c71) [.slice A70 ((cutL t52 (if (t52.length : Int) < 1 then (t52.length : Int) else 1) (t52.length : Int)).length) c71] h72 (by kernel_rfl) (by kernel_rfl) rfl (by kernel_rfl) (by kernel_rfl) (by kernel_rfl) ?_)
      intro w73 h74 hk75
      refine RegI.done (by kernel_rfl) ?_
      refine RunsI.go 1 [.c 13, .c 14, .blk 1, .c 29, .lp 6, .blk 0] (by kernel_rfl) ?_
      refine RunsI.region (by kernel_rfl) ?_
      refine RegI.op (by kernel_rfl) (OpE.loadBox 29 6 26 b53 0 (.agg #[.int .i64 t54, .int .u16 t55, .int .u8 t56, .int .i64 t57, .int .i64 t58, .int .i64 t59]) h74 (by kernel_rfl) (by kernel_rfl) rfl (by kernel_rfl) ?_)
      refine RegI.pure 1 [0, 1, 2, 4, 5, 19, 20, 21, 29, 30] [(0, .func (.yield b43) #[] #[]), (1, .pointer (some ⟨b48, 0, none⟩)), (2, .pointer (some ⟨b49, 0, none⟩)), (4, .pointer (some ⟨b53, 0, none⟩)), (5, .int .i64 t60), (19, .slice A50 t52.length c51), (20, .pointer (some ⟨b64, o65, none⟩)), (21, .bool (rdD t52 0)), (29, .agg #[.int .i64 t54, .int .u16 t55, .int .u8 t56, .int .i64 t57, .int .i64 t58, .int .i64 t59]), (30, .bool (rdD t52 0))] (by kernel_rfl) ?_
      obtain ⟨⟨t80, t81, t82, t83, t84, t85, t86, t87⟩, hg79, h⟩ := of_bind h
      dsimp only at h
      refine RegI.op (by kernel_rfl) (OpE.call 31 (by kernel_rfl) 11 #[.agg #[.int .i64 t54, .int .u16 t55, .int .u8 t56, .int .i64 t57, .int .i64 t58, .int .i64 t59], .bool (rdD t52 0)] (by kernel_rfl) ((cycle_Tick_11_ok K _ w73  t54 t55 t56 t57 t58 t59 (rdD t52 0) h74.old' (h74.get 8 rfl) hg79).mono ?_))
      rintro _ w76 ⟨rfl, hb77⟩
      refine ⟨_, rfl, ?_⟩
      have h78 := h74.call hb77
      refine RegI.pure 4 [0, 1, 2, 4, 5, 19, 20, 21, 32, 33, 34] [(0, .func (.yield b43) #[] #[]), (1, .pointer (some ⟨b48, 0, none⟩)), (2, .pointer (some ⟨b49, 0, none⟩)), (4, .pointer (some ⟨b53, 0, none⟩)), (5, .int .i64 t60), (19, .slice A50 t52.length c51), (20, .pointer (some ⟨b64, o65, none⟩)), (21, .bool (rdD t52 0)), (32, .agg #[.int .i64 t80, .int .u16 t81, .int .u8 t82, .int .i64 t83, .int .i64 t84, .int .i64 t85]), (33, .bool t86), (34, .bool t87)] (by kernel_rfl) ?_
      refine RegI.op (by kernel_rfl) (OpE.box 7 26 [.int .i64 0, .int .u16 0, .int .u8 0, .int .i64 0, .int .i64 0, .int .i64 0] h78 (by kernel_rfl) (by kernel_rfl) ?_)
      intro w88 b89 h90 hb91 hn92
      refine RegI.op (by kernel_rfl) (OpE.storeBox 13 26 b89 0 (.agg #[.int .i64 t80, .int .u16 t81, .int .u8 t82, .int .i64 t83, .int .i64 t84, .int .i64 t85]) [.int .i64 t80, .int .u16 t81, .int .u8 t82, .int .i64 t83, .int .i64 t84, .int .i64 t85] h90 (by kernel_rfl) (by kernel_rfl) rfl (by kernel_rfl) (by kernel_rfl) (by kernel_rfl) ?_)
      intro w93 h94 hk95
      refine RegI.pure 2 [0, 1, 2, 4, 5, 7, 8, 9, 19, 20, 21] [(0, .func (.yield b43) #[] #[]), (1, .pointer (some ⟨b48, 0, none⟩)), (2, .pointer (some ⟨b49, 0, none⟩)), (4, .pointer (some ⟨b53, 0, none⟩)), (5, .int .i64 t60), (7, .pointer (some ⟨b89, 0, none⟩)), (8, .bool t86), (9, .bool t87), (19, .slice A50 t52.length c51), (20, .pointer (some ⟨b64, o65, none⟩)), (21, .bool (rdD t52 0))] (by kernel_rfl) ?_
      refine RegI.done (by kernel_rfl) ?_
      refine RunsI.go 1 [.c 15, .c 16, .blk 1, .c 29, .lp 6, .blk 0] (by kernel_rfl) ?_
      refine RunsI.region (by kernel_rfl) ?_
      refine RegI.pure 2 [0, 1, 2, 4, 5, 7, 9, 19, 20, 21, 36] [(0, .func (.yield b43) #[] #[]), (1, .pointer (some ⟨b48, 0, none⟩)), (2, .pointer (some ⟨b49, 0, none⟩)), (4, .pointer (some ⟨b53, 0, none⟩)), (5, .int .i64 t60), (7, .pointer (some ⟨b89, 0, none⟩)), (9, .bool t87), (19, .slice A50 t52.length c51), (20, .pointer (some ⟨b64, o65, none⟩)), (21, .bool (rdD t52 0)), (36, .agg #[.string (⟨#[84, 87]⟩ : ByteArray), .bool t86])] (by kernel_rfl) ?_
      refine RegI.op (by kernel_rfl) (OpE.box 10 61 [.string ByteArray.empty, .bool false] h94 (by kernel_rfl) (by kernel_rfl) ?_)
      intro w96 b97 h98 hb99 hn100
      refine RegI.op (by kernel_rfl) (OpE.storeBox 14 61 b97 0 (.agg #[.string (⟨#[84, 87]⟩ : ByteArray), .bool t86]) [.string (⟨#[84, 87]⟩ : ByteArray), .bool t86] h98 (by kernel_rfl) (by kernel_rfl) rfl (by kernel_rfl) (by kernel_rfl) (by kernel_rfl) ?_)
      intro w101 h102 hk103
      refine RegI.done (by kernel_rfl) ?_
      refine RunsI.go 2 [.c 18, .c 19, .c 22, .blk 1, .c 29, .lp 6, .blk 0] (by kernel_rfl) ?_
      refine RunsI.region (by kernel_rfl) ?_
      refine RegI.pure 1 [0, 1, 2, 4, 5, 7, 9, 10, 19, 20, 21, 37] [(0, .func (.yield b43) #[] #[]), (1, .pointer (some ⟨b48, 0, none⟩)), (2, .pointer (some ⟨b49, 0, none⟩)), (4, .pointer (some ⟨b53, 0, none⟩)), (5, .int .i64 t60), (7, .pointer (some ⟨b89, 0, none⟩)), (9, .bool t87), (10, .pointer (some ⟨b97, 0, none⟩)), (19, .slice A50 t52.length c51), (20, .pointer (some ⟨b64, o65, none⟩)), (21, .bool (rdD t52 0)), (37, .pointer (some ⟨b89, 4, none⟩))] (by kernel_rfl) ?_
      refine RegI.op (by kernel_rfl) (OpE.loadBox 38 13 3 b89 4 (.int .i64 t84) h102 (by kernel_rfl) (by kernel_rfl) rfl (by kernel_rfl) ?_)
      refine RegI.pure 1 [0, 1, 2, 4, 5, 7, 9, 10, 19, 20, 21, 38, 39] [(0, .func (.yield b43) #[] #[]), (1, .pointer (some ⟨b48, 0, none⟩)), (2, .pointer (some ⟨b49, 0, none⟩)), (4, .pointer (some ⟨b53, 0, none⟩)), (5, .int .i64 t60), (7, .pointer (some ⟨b89, 0, none⟩)), (9, .bool t87), (10, .pointer (some ⟨b97, 0, none⟩)), (19, .slice A50 t52.length c51), (20, .pointer (some ⟨b64, o65, none⟩)), (21, .bool (rdD t52 0)), (38, .int .i64 t84), (39, .pointer (some ⟨b53, 4, none⟩))] (by kernel_rfl) ?_
      refine RegI.op (by kernel_rfl) (OpE.loadBox 40 6 3 b53 4 (.int .i64 t58) h102 (by kernel_rfl) (by kernel_rfl) rfl (by kernel_rfl) ?_)
      refine RegI.pure 1 [0, 1, 2, 4, 5, 7, 9, 10, 19, 20, 21, 41] [(0, .func (.yield b43) #[] #[]), (1, .pointer (some ⟨b48, 0, none⟩)), (2, .pointer (some ⟨b49, 0, none⟩)), (4, .pointer (some ⟨b53, 0, none⟩)), (5, .int .i64 t60), (7, .pointer (some ⟨b89, 0, none⟩)), (9, .bool t87), (10, .pointer (some ⟨b97, 0, none⟩)), (19, .slice A50 t52.length c51), (20, .pointer (some ⟨b64, o65, none⟩)), (21, .bool (rdD t52 0)), (41, .bool (decide (t84 > t58)))] (by kernel_rfl) ?_
      refine RegI.done (by kernel_rfl) ?_
      obtain ⟨j116, hJ117, h⟩ := of_let h
      have hj118 : ∀ (t113 : ByteArray) (w115 : World), j116 t113 = some x → Holds M0 w0 w115 [rng F21 16 b43 [(5, .pointer (some ⟨b44, 0, none⟩)), (13, .func (.func 58) #[] #[.pointer (some ⟨b48, 0, none⟩), .pointer (some ⟨b49, 0, none⟩)])] .ready none, box b44 42 [.slice A45 t47.length c46], own Rp.str 9 (.slice A45 t47.length c46) t47, box b48 24 [.int .i64 p0_0, .int .u16 p0_1, .int .u8 p0_2, .int .i64 p0_3], box b49 38 [.slice A70 ((cutL t52 (if (t52.length : Int) < 1 then (t52.length : Int) else 1) (t52.length : Int)).length) c71], sl Rp.bool (.slice A70 ((cutL t52 (if (t52.length : Int) < 1 then (t52.length : Int) else 1) (t52.length : Int)).length) c71) (cutL t52 (if (t52.length : Int) < 1 then (t52.length : Int) else 1) (t52.length : Int)), box b53 26 [.int .i64 t54, .int .u16 t55, .int .u8 t56, .int .i64 t57, .int .i64 t58, .int .i64 t59], box b89 26 [.int .i64 t80, .int .u16 t81, .int .u8 t82, .int .i64 t83, .int .i64 t84, .int .i64 t85], box b97 61 [.string t113, .bool t86], sl Rp.bool (.slice A50 t52.length c51) t52, cel b64 o65 [.bool (rdD t52 0)], dfr b61, gl 0 (tab_0.flatMap en_0), gl 1 (tab_1.flatMap en_1), gl 2 (tab_2.flatMap en_2)] → RunsI F58 [.c 22, .blk 1, .c 29, .lp 6, .blk 0] [(0, .func (.yield b43) #[] #[]), (1, .pointer (some ⟨b48, 0, none⟩)), (2, .pointer (some ⟨b49, 0, none⟩)), (4, .pointer (some ⟨b53, 0, none⟩)), (5, .int .i64 t60), (7, .pointer (some ⟨b89, 0, none⟩)), (9, .bool t87), (10, .pointer (some ⟨b97, 0, none⟩)), (19, .slice A50 t52.length c51), (20, .pointer (some ⟨b64, o65, none⟩)), (21, .bool (rdD t52 0))] w115 R := by
        intro t113 w115 h h114
        rw [hJ117] at h
        clear hJ117
        dsimp only at h
        refine RunsI.go 2 [.c 24, .c 25, .c 28, .blk 1, .c 29, .lp 6, .blk 0] (by kernel_rfl) ?_
        refine RunsI.region (by kernel_rfl) ?_
        refine RegI.pure 2 [0, 1, 2, 4, 5, 7, 9, 10, 19, 20, 21, 48, 49] [(0, .func (.yield b43) #[] #[]), (1, .pointer (some ⟨b48, 0, none⟩)), (2, .pointer (some ⟨b49, 0, none⟩)), (4, .pointer (some ⟨b53, 0, none⟩)), (5, .int .i64 t60), (7, .pointer (some ⟨b89, 0, none⟩)), (9, .bool t87), (10, .pointer (some ⟨b97, 0, none⟩)), (19, .slice A50 t52.length c51), (20, .pointer (some ⟨b64, o65, none⟩)), (21, .bool (rdD t52 0)), (48, .func (.yield b43) #[] #[]), (49, .int .i64 t60)] (by kernel_rfl) ?_
        refine RegI.op (by kernel_rfl) (OpE.loadBox 50 8 61 b97 0 (.agg #[.string t113, .bool t86]) h114 (by kernel_rfl) (by kernel_rfl) rfl (by kernel_rfl) ?_)
        refine RegI.yield 51 b43 16 0 [.int .i64 t60, .agg #[.string t113, .bool t86]] [0, 1, 2, 4, 5, 7, 9, 19, 20, 21] [(0, .func (.yield b43) #[] #[]), (1, .pointer (some ⟨b48, 0, none⟩)), (2, .pointer (some ⟨b49, 0, none⟩)), (4, .pointer (some ⟨b53, 0, none⟩)), (5, .int .i64 t60), (7, .pointer (some ⟨b89, 0, none⟩)), (9, .bool t87), (19, .slice A50 t52.length c51), (20, .pointer (some ⟨b64, o65, none⟩)), (21, .bool (rdD t52 0))] h114 (by kernel_rfl) (by kernel_rfl) (by kernel_rfl) (by kernel_rfl) rfl (by kernel_rfl) (by kernel_rfl) (by kernel_rfl) [.c 17, .bg, .c 18] (by kernel_rfl) [(15, .agg #[.string t113, .bool t86]), (14, .int .i64 t60), (5, .pointer (some ⟨b44, 0, none⟩)), (13, .func (.func 58) #[] #[.pointer (some ⟨b48, 0, none⟩), .pointer (some ⟨b49, 0, none⟩)])] (by kernel_rfl) ?_
        refine RunsI.only [5, 15] [(5, .pointer (some ⟨b44, 0, none⟩)), (15, .agg #[.string t113, .bool t86])] (by kernel_rfl) (by kernel_rfl) ?_
        refine RunsI.region (by kernel_rfl) ?_
        refine RegI.op (by kernel_rfl) (OpE.box 7 61 [.string ByteArray.empty, .bool false] h114 (by kernel_rfl) (by kernel_rfl) ?_)
        intro w119 b120 h121 hb122 hn123
        refine RegI.op (by kernel_rfl) (OpE.storeBox 15 61 b120 0 (.agg #[.string t113, .bool t86]) [.string t113, .bool t86] h121 (by kernel_rfl) (by kernel_rfl) rfl (by kernel_rfl) (by kernel_rfl) (by kernel_rfl) ?_)
        intro w124 h125 hk126
        refine RegI.done (by kernel_rfl) ?_
        refine RunsI.begin 0 h125 rfl rfl ?_
        intro w127 h128 hk129
        refine RunsI.go 1 [.c 19, .blk 1] (by kernel_rfl) ?_
        refine RunsI.region (by kernel_rfl) ?_
        refine RegI.op (by kernel_rfl) (OpE.loadBox 16 1 42 b44 0 (.slice A45 t47.length c46) h128 (by kernel_rfl) (by kernel_rfl) rfl (by kernel_rfl) ?_)
        refine RegI.pure 1 [5, 16, 17] [(5, .pointer (some ⟨b44, 0, none⟩)), (16, .slice A45 t47.length c46), (17, .pointer (some ⟨b120, 0, none⟩))] (by kernel_rfl) ?_
        refine RegI.op (by kernel_rfl) (OpE.loadBox 18 15 9 b120 0 (.string t113) h128 (by kernel_rfl) (by kernel_rfl) rfl (by kernel_rfl) ?_)
        refine RegI.op (by kernel_rfl) (OpE.lit 19 9 [.string t113] 1 h128 (by kernel_rfl) (by kernel_rfl) ?_)
        intro w130 b131 h132 hb133 hn134
        obtain ⟨hc135, h⟩ := of_cond0 h
        refine RegI.op (by kernel_rfl) (OpE.appendBox 20 2 16 42 9 16 ([t113] : List ByteArray) 0 h132 (by kernel_rfl) (by kernel_rfl) (by kernel_rfl) rfl rfl rfl (cells_str _ _ _) hc135 ?_)
        intro w136 A137 c138 h139 hk140
        refine RegI.op (by kernel_rfl) (OpE.storeBox 1 42 b44 0 (.slice A137 ((t47 ++ ([t113] : List ByteArray)).length) c138) [.slice A137 ((t47 ++ ([t113] : List ByteArray)).length) c138] h139 (by kernel_rfl) (by kernel_rfl) rfl (by kernel_rfl) (by kernel_rfl) (by kernel_rfl) ?_)
        intro w141 h142 hk143
        refine RegI.done (by kernel_rfl) ?_
        refine RunsI.go 1 [] (by kernel_rfl) ?_
        refine RunsI.roundEnd 0 h142 rfl rfl ?_
        intro w144 h145 hk146
        refine cont_mk ?_
        refine RegI.pure 4 [0, 1, 2, 4, 5, 7, 19, 20, 21, 54, 55] [(0, .func (.yield b43) #[] #[]), (1, .pointer (some ⟨b48, 0, none⟩)), (2, .pointer (some ⟨b49, 0, none⟩)), (4, .pointer (some ⟨b53, 0, none⟩)), (5, .int .i64 t60), (7, .pointer (some ⟨b89, 0, none⟩)), (19, .slice A50 t52.length c51), (20, .pointer (some ⟨b64, o65, none⟩)), (21, .bool (rdD t52 0)), (54, .bool t87), (55, .bool t87)] (by kernel_rfl) ?_
        refine RegI.done (by kernel_rfl) ?_
        rcases of_cond h with ⟨hc147, h⟩ | ⟨hc147, h⟩
        · skip
          refine RunsI.fix 55 true hc147 (by kernel_rfl) (by kernel_rfl) ?_
          refine RunsI.cond true 26 (by kernel_rfl) ?_
          refine RunsI.ret (.tuple #[]) (by kernel_rfl) (by kernel_rfl) ?_
          exact hk0 (t47 ++ ([t113] : List ByteArray)) (cutL t52 (if (t52.length : Int) < 1 then (t52.length : Int) else 1) (t52.length : Int)) A137 c138 A70 c71 w144 (Option.some.inj h).symm (h145.pick [1, 2, 0, 3, 4, 5, 11, 12, 13, 14] (by decide))
        · skip
          refine RunsI.fix 55 false hc147 (by kernel_rfl) (by kernel_rfl) ?_
          refine RunsI.cond false 27 (by kernel_rfl) ?_
          refine RunsI.go 1 [.c 28, .blk 1, .c 29, .lp 6, .blk 0] (by kernel_rfl) ?_
          refine RunsI.region (by kernel_rfl) ?_
          refine RegI.op (by kernel_rfl) (OpE.loadBox 56 7 26 b89 0 (.agg #[.int .i64 t80, .int .u16 t81, .int .u8 t82, .int .i64 t83, .int .i64 t84, .int .i64 t85]) h145 (by kernel_rfl) (by kernel_rfl) rfl (by kernel_rfl) ?_)
          refine RegI.op (by kernel_rfl) (OpE.storeBox 6 26 b53 0 (.agg #[.int .i64 t80, .int .u16 t81, .int .u8 t82, .int .i64 t83, .int .i64 t84, .int .i64 t85]) [.int .i64 t80, .int .u16 t81, .int .u8 t82, .int .i64 t83, .int .i64 t84, .int .i64 t85] h145 (by kernel_rfl) (by kernel_rfl) rfl (by kernel_rfl) (by kernel_rfl) (by kernel_rfl) ?_)
          intro w148 h149 hk150
          refine RegI.done (by kernel_rfl) ?_
          refine RunsI.go 1 [.c 29, .lp 6, .blk 0] (by kernel_rfl) ?_
          refine RunsI.region (by kernel_rfl) ?_
          refine RegI.pure 3 [0, 1, 2, 4, 5, 19, 20, 21, 54] [(0, .func (.yield b43) #[] #[]), (1, .pointer (some ⟨b48, 0, none⟩)), (2, .pointer (some ⟨b49, 0, none⟩)), (4, .pointer (some ⟨b53, 0, none⟩)), (5, .int .i64 (IntKind.wrap .i64 (t60 + 1))), (19, .slice A50 t52.length c51), (20, .pointer (some ⟨b64, o65, none⟩)), (21, .bool (rdD t52 0)), (54, .bool t87)] (by kernel_rfl) ?_
          refine RegI.done (by kernel_rfl) ?_
          refine RunsI.go 1 [.c 6, .lp 6, .blk 0] (by kernel_rfl) ?_
          refine RunsI.only [0, 1, 2, 4, 5] [(0, .func (.yield b43) #[] #[]), (1, .pointer (some ⟨b48, 0, none⟩)), (2, .pointer (some ⟨b49, 0, none⟩)), (4, .pointer (some ⟨b53, 0, none⟩)), (5, .int .i64 (IntKind.wrap .i64 (t60 + 1)))] (by kernel_rfl) (by kernel_rfl) ?_
          exact ih (t47 ++ ([t113] : List ByteArray)) (cutL t52 (if (t52.length : Int) < 1 then (t52.length : Int) else 1) (t52.length : Int)) t80 t81 t82 t83 t84 t85 (IntKind.wrap .i64 (t60 + 1)) A137 c138 A70 c71 w148 h (h149.pick [0, 1, 2, 3, 4, 5, 6, 11, 12, 13, 14] (by decide))
      clear hJ117
      rcases of_cond h with ⟨hc104, h⟩ | ⟨hc104, h⟩
      · skip
        refine RunsI.fix 41 true hc104 (by kernel_rfl) (by kernel_rfl) ?_
        refine RunsI.cond true 20 (by kernel_rfl) ?_
        refine RunsI.region (by kernel_rfl) ?_
        refine RegI.pure 1 [0, 1, 2, 4, 5, 7, 9, 10, 19, 20, 21, 42] [(0, .func (.yield b43) #[] #[]), (1, .pointer (some ⟨b48, 0, none⟩)), (2, .pointer (some ⟨b49, 0, none⟩)), (4, .pointer (some ⟨b53, 0, none⟩)), (5, .int .i64 t60), (7, .pointer (some ⟨b89, 0, none⟩)), (9, .bool t87), (10, .pointer (some ⟨b97, 0, none⟩)), (19, .slice A50 t52.length c51), (20, .pointer (some ⟨b64, o65, none⟩)), (21, .bool (rdD t52 0)), (42, .pointer (some ⟨b48, 0, none⟩))] (by kernel_rfl) ?_
        refine RegI.op (by kernel_rfl) (OpE.loadBox 43 3 3 b48 0 (.int .i64 p0_0) h102 (by kernel_rfl) (by kernel_rfl) rfl (by kernel_rfl) ?_)
        refine RegI.pure 1 [0, 1, 2, 4, 5, 7, 9, 10, 19, 20, 21, 43, 44] [(0, .func (.yield b43) #[] #[]), (1, .pointer (some ⟨b48, 0, none⟩)), (2, .pointer (some ⟨b49, 0, none⟩)), (4, .pointer (some ⟨b53, 0, none⟩)), (5, .int .i64 t60), (7, .pointer (some ⟨b89, 0, none⟩)), (9, .bool t87), (10, .pointer (some ⟨b97, 0, none⟩)), (19, .slice A50 t52.length c51), (20, .pointer (some ⟨b64, o65, none⟩)), (21, .bool (rdD t52 0)), (43, .int .i64 p0_0), (44, .pointer (some ⟨b89, 4, none⟩))] (by kernel_rfl) ?_
        refine RegI.op (by kernel_rfl) (OpE.loadBox 45 13 3 b89 4 (.int .i64 t84) h102 (by kernel_rfl) (by kernel_rfl) rfl (by kernel_rfl) ?_)
        obtain ⟨t109, hg108, h⟩ := of_bind h
        refine RegI.op (by kernel_rfl) (OpE.call 46 (by kernel_rfl) 59 #[.int .i64 p0_0, .int .i64 t84] (by kernel_rfl) ((cycle_name_59_ok K _ w101  p0_0 t84 h102.old' (h102.get 8 rfl) (h102.get 9 rfl) (h102.get 10 rfl) hg108).mono ?_))
        rintro _ w105 ⟨rfl, hb106⟩
        refine ⟨_, rfl, ?_⟩
        have h107 := h102.call hb106
        refine RegI.pure 1 [0, 1, 2, 4, 5, 7, 9, 10, 19, 20, 21, 46, 47] [(0, .func (.yield b43) #[] #[]), (1, .pointer (some ⟨b48, 0, none⟩)), (2, .pointer (some ⟨b49, 0, none⟩)), (4, .pointer (some ⟨b53, 0, none⟩)), (5, .int .i64 t60), (7, .pointer (some ⟨b89, 0, none⟩)), (9, .bool t87), (10, .pointer (some ⟨b97, 0, none⟩)), (19, .slice A50 t52.length c51), (20, .pointer (some ⟨b64, o65, none⟩)), (21, .bool (rdD t52 0)), (46, .string t109), (47, .pointer (some ⟨b97, 0, none⟩))] (by kernel_rfl) ?_
        refine RegI.op (by kernel_rfl) (OpE.storeBox 14 9 b97 0 (.string t109) [.string t109, .bool t86] h107 (by kernel_rfl) (by kernel_rfl) rfl (by kernel_rfl) (by kernel_rfl) (by kernel_rfl) ?_)
        intro w110 h111 hk112
        refine RegI.done (by kernel_rfl) ?_
        refine RunsI.only [0, 1, 2, 4, 5, 7, 9, 10, 19, 20, 21] [(0, .func (.yield b43) #[] #[]), (1, .pointer (some ⟨b48, 0, none⟩)), (2, .pointer (some ⟨b49, 0, none⟩)), (4, .pointer (some ⟨b53, 0, none⟩)), (5, .int .i64 t60), (7, .pointer (some ⟨b89, 0, none⟩)), (9, .bool t87), (10, .pointer (some ⟨b97, 0, none⟩)), (19, .slice A50 t52.length c51), (20, .pointer (some ⟨b64, o65, none⟩)), (21, .bool (rdD t52 0))] (by kernel_rfl) (by kernel_rfl) ?_
        exact hj118 t109 w110 h (h111.pick [0, 1, 2, 3, 4, 12, 6, 13, 14, 5, 11, 7, 8, 9, 10] (by decide))
      · skip
        refine RunsI.fix 41 false hc104 (by kernel_rfl) (by kernel_rfl) ?_
        refine RunsI.cond false 21 (by kernel_rfl) ?_
        refine RunsI.go 1 [.c 22, .blk 1, .c 29, .lp 6, .blk 0] (by kernel_rfl) ?_
        refine RunsI.only [0, 1, 2, 4, 5, 7, 9, 10, 19, 20, 21] [(0, .func (.yield b43) #[] #[]), (1, .pointer (some ⟨b48, 0, none⟩)), (2, .pointer (some ⟨b49, 0, none⟩)), (4, .pointer (some ⟨b53, 0, none⟩)), (5, .int .i64 t60), (7, .pointer (some ⟨b89, 0, none⟩)), (9, .bool t87), (10, .pointer (some ⟨b97, 0, none⟩)), (19, .slice A50 t52.length c51), (20, .pointer (some ⟨b64, o65, none⟩)), (21, .bool (rdD t52 0))] (by kernel_rfl) (by kernel_rfl) ?_
        exact hj118 (⟨#[84, 87]⟩ : ByteArray) w101 h (h102.pick [0, 1, 2, 3, 4, 12, 6, 13, 14, 5, 11, 7, 8, 9, 10] (by decide))
    · skip
      refine RegI.fix 18 false hc62 (by kernel_rfl) (by kernel_rfl) ?_
      refine RegI.pure 5 [0, 1, 2, 4, 5, 6, 19, 20, 21] [(0, .func (.yield b43) #[] #[]), (1, .pointer (some ⟨b48, 0, none⟩)), (2, .pointer (some ⟨b49, 0, none⟩)), (4, .pointer (some ⟨b53, 0, none⟩)), (5, .int .i64 t60), (6, .bool false), (19, undef), (20, undef), (21, undef)] (by kernel_rfl) ?_
      refine RegI.done (by kernel_rfl) ?_
      refine RunsI.go 1 [.c 11, .c 12, .blk 1, .c 29, .lp 6, .blk 0] (by kernel_rfl) ?_
      refine RunsI.region (by kernel_rfl) ?_
      refine RegI.op (by kernel_rfl) (OpE.loadBox 23 4 38 b49 0 (.slice A50 t52.length c51) hH (by kernel_rfl) (by kernel_rfl) rfl (by kernel_rfl) ?_)
      refine RegI.op (by kernel_rfl) (OpE.loadBox 24 4 38 b49 0 (.slice A50 t52.length c51) hH (by kernel_rfl) (by kernel_rfl) rfl (by kernel_rfl) ?_)
      refine RegI.pure 2 [0, 1, 2, 4, 5, 6, 19, 20, 21, 23, 26] [(0, .func (.yield b43) #[] #[]), (1, .pointer (some ⟨b48, 0, none⟩)), (2, .pointer (some ⟨b49, 0, none⟩)), (4, .pointer (some ⟨b53, 0, none⟩)), (5, .int .i64 t60), (6, .bool false), (19, undef), (20, undef), (21, undef), (23, .slice A50 t52.length c51), (26, .int .i64 (if (t52.length : Int) < 1 then (t52.length : Int) else 1))] (by kernel_rfl) ?_
      obtain ⟨hc151, h⟩ := of_cond0 h
      refine RegI.op (by kernel_rfl) (OpE.cutSl 27 5 38 (some (if (t52.length : Int) < 1 then (t52.length : Int) else 1)) none hH (by kernel_rfl) rfl (by kernel_rfl) (by kernel_rfl) hc151 ?_)
      intro A152 c153 h154
      refine RegI.op (by kernel_rfl) (OpE.storeBox 4 38 b49 0 (.slice A152 ((cutL t52 (if (t52.length : Int) < 1 then (t52.length : Int) else 1) (t52.length : Int)).length) c153) [.slice A152 ((cutL t52 (if (t52.length : Int) < 1 then (t52.length : Int) else 1) (t52.length : Int)).length) c153] h154 (by kernel_rfl) (by kernel_rfl) rfl (by kernel_rfl) (by kernel_rfl) (by kernel_rfl) ?_)
      intro w155 h156 hk157
      refine RegI.done (by kernel_rfl) ?_
      refine RunsI.go 1 [.c 13, .c 14, .blk 1, .c 29, .lp 6, .blk 0] (by kernel_rfl) ?_
      refine RunsI.region (by kernel_rfl) ?_
      refine RegI.op (by kernel_rfl) (OpE.loadBox 29 6 26 b53 0 (.agg #[.int .i64 t54, .int .u16 t55, .int .u8 t56, .int .i64 t57, .int .i64 t58, .int .i64 t59]) h156 (by kernel_rfl) (by kernel_rfl) rfl (by kernel_rfl) ?_)
      refine RegI.pure 1 [0, 1, 2, 4, 5, 19, 20, 21, 29, 30] [(0, .func (.yield b43) #[] #[]), (1, .pointer (some ⟨b48, 0, none⟩)), (2, .pointer (some ⟨b49, 0, none⟩)), (4, .pointer (some ⟨b53, 0, none⟩)), (5, .int .i64 t60), (19, undef), (20, undef), (21, undef), (29, .agg #[.int .i64 t54, .int .u16 t55, .int .u8 t56, .int .i64 t57, .int .i64 t58, .int .i64 t59]), (30, .bool false)] (by kernel_rfl) ?_
      obtain ⟨⟨t162, t163, t164, t165, t166, t167, t168, t169⟩, hg161, h⟩ := of_bind h
      dsimp only at h
      refine RegI.op (by kernel_rfl) (OpE.call 31 (by kernel_rfl) 11 #[.agg #[.int .i64 t54, .int .u16 t55, .int .u8 t56, .int .i64 t57, .int .i64 t58, .int .i64 t59], .bool false] (by kernel_rfl) ((cycle_Tick_11_ok K _ w155  t54 t55 t56 t57 t58 t59 false h156.old' (h156.get 8 rfl) hg161).mono ?_))
      rintro _ w158 ⟨rfl, hb159⟩
      refine ⟨_, rfl, ?_⟩
      have h160 := h156.call hb159
      refine RegI.pure 4 [0, 1, 2, 4, 5, 19, 20, 21, 32, 33, 34] [(0, .func (.yield b43) #[] #[]), (1, .pointer (some ⟨b48, 0, none⟩)), (2, .pointer (some ⟨b49, 0, none⟩)), (4, .pointer (some ⟨b53, 0, none⟩)), (5, .int .i64 t60), (19, undef), (20, undef), (21, undef), (32, .agg #[.int .i64 t162, .int .u16 t163, .int .u8 t164, .int .i64 t165, .int .i64 t166, .int .i64 t167]), (33, .bool t168), (34, .bool t169)] (by kernel_rfl) ?_
      refine RegI.op (by kernel_rfl) (OpE.box 7 26 [.int .i64 0, .int .u16 0, .int .u8 0, .int .i64 0, .int .i64 0, .int .i64 0] h160 (by kernel_rfl) (by kernel_rfl) ?_)
      intro w170 b171 h172 hb173 hn174
      refine RegI.op (by kernel_rfl) (OpE.storeBox 12 26 b171 0 (.agg #[.int .i64 t162, .int .u16 t163, .int .u8 t164, .int .i64 t165, .int .i64 t166, .int .i64 t167]) [.int .i64 t162, .int .u16 t163, .int .u8 t164, .int .i64 t165, .int .i64 t166, .int .i64 t167] h172 (by kernel_rfl) (by kernel_rfl) rfl (by kernel_rfl) (by kernel_rfl) (by kernel_rfl) ?_)
      intro w175 h176 hk177
      refine RegI.pure 2 [0, 1, 2, 4, 5, 7, 8, 9, 19, 20, 21] [(0, .func (.yield b43) #[] #[]), (1, .pointer (some ⟨b48, 0, none⟩)), (2, .pointer (some ⟨b49, 0, none⟩)), (4, .pointer (some ⟨b53, 0, none⟩)), (5, .int .i64 t60), (7, .pointer (some ⟨b171, 0, none⟩)), (8, .bool t168), (9, .bool t169), (19, undef), (20, undef), (21, undef)] (by kernel_rfl) ?_
      refine RegI.done (by kernel_rfl) ?_
      refine RunsI.go 1 [.c 15, .c 16, .blk 1, .c 29, .lp 6, .blk 0] (by kernel_rfl) ?_
      refine RunsI.region (by kernel_rfl) ?_
      refine RegI.pure 2 [0, 1, 2, 4, 5, 7, 9, 19, 20, 21, 36] [(0, .func (.yield b43) #[] #[]), (1, .pointer (some ⟨b48, 0, none⟩)), (2, .pointer (some ⟨b49, 0, none⟩)), (4, .pointer (some ⟨b53, 0, none⟩)), (5, .int .i64 t60), (7, .pointer (some ⟨b171, 0, none⟩)), (9, .bool t169), (19, undef), (20, undef), (21, undef), (36, .agg #[.string (⟨#[84, 87]⟩ : ByteArray), .bool t168])] (by kernel_rfl) ?_
      refine RegI.op (by kernel_rfl) (OpE.box 10 61 [.string ByteArray.empty, .bool false] h176 (by kernel_rfl) (by kernel_rfl) ?_)
      intro w178 b179 h180 hb181 hn182
      refine RegI.op (by kernel_rfl) (OpE.storeBox 13 61 b179 0 (.agg #[.string (⟨#[84, 87]⟩ : ByteArray), .bool t168]) [.string (⟨#[84, 87]⟩ : ByteArray), .bool t168] h180 (by kernel_rfl) (by kernel_rfl) rfl (by kernel_rfl) (by kernel_rfl) (by kernel_rfl) ?_)
      intro w183 h184 hk185
      refine RegI.done (by kernel_rfl) ?_
      refine RunsI.go 2 [.c 18, .c 19, .c 22, .blk 1, .c 29, .lp 6, .blk 0] (by kernel_rfl) ?_
      refine RunsI.region (by kernel_rfl) ?_
      refine RegI.pure 1 [0, 1, 2, 4, 5, 7, 9, 10, 19, 20, 21, 37] [(0, .func (.yield b43) #[] #[]), (1, .pointer (some ⟨b48, 0, none⟩)), (2, .pointer (some ⟨b49, 0, none⟩)), (4, .pointer (some ⟨b53, 0, none⟩)), (5, .int .i64 t60), (7, .pointer (some ⟨b171, 0, none⟩)), (9, .bool t169), (10, .pointer (some ⟨b179, 0, none⟩)), (19, undef), (20, undef), (21, undef), (37, .pointer (some ⟨b171, 4, none⟩))] (by kernel_rfl) ?_
      refine RegI.op (by kernel_rfl) (OpE.loadBox 38 12 3 b171 4 (.int .i64 t166) h184 (by kernel_rfl) (by kernel_rfl) rfl (by kernel_rfl) ?_)
      refine RegI.pure 1 [0, 1, 2, 4, 5, 7, 9, 10, 19, 20, 21, 38, 39] [(0, .func (.yield b43) #[] #[]), (1, .pointer (some ⟨b48, 0, none⟩)), (2, .pointer (some ⟨b49, 0, none⟩)), (4, .pointer (some ⟨b53, 0, none⟩)), (5, .int .i64 t60), (7, .pointer (some ⟨b171, 0, none⟩)), (9, .bool t169), (10, .pointer (some ⟨b179, 0, none⟩)), (19, undef), (20, undef), (21, undef), (38, .int .i64 t166), (39, .pointer (some ⟨b53, 4, none⟩))] (by kernel_rfl) ?_
      refine RegI.op (by kernel_rfl) (OpE.loadBox 40 6 3 b53 4 (.int .i64 t58) h184 (by kernel_rfl) (by kernel_rfl) rfl (by kernel_rfl) ?_)
      refine RegI.pure 1 [0, 1, 2, 4, 5, 7, 9, 10, 19, 20, 21, 41] [(0, .func (.yield b43) #[] #[]), (1, .pointer (some ⟨b48, 0, none⟩)), (2, .pointer (some ⟨b49, 0, none⟩)), (4, .pointer (some ⟨b53, 0, none⟩)), (5, .int .i64 t60), (7, .pointer (some ⟨b171, 0, none⟩)), (9, .bool t169), (10, .pointer (some ⟨b179, 0, none⟩)), (19, undef), (20, undef), (21, undef), (41, .bool (decide (t166 > t58)))] (by kernel_rfl) ?_
      refine RegI.done (by kernel_rfl) ?_
      obtain ⟨j198, hJ199, h⟩ := of_let h
      have hj200 : ∀ (t195 : ByteArray) (w197 : World), j198 t195 = some x → Holds M0 w0 w197 [rng F21 16 b43 [(5, .pointer (some ⟨b44, 0, none⟩)), (13, .func (.func 58) #[] #[.pointer (some ⟨b48, 0, none⟩), .pointer (some ⟨b49, 0, none⟩)])] .ready none, box b44 42 [.slice A45 t47.length c46], own Rp.str 9 (.slice A45 t47.length c46) t47, box b48 24 [.int .i64 p0_0, .int .u16 p0_1, .int .u8 p0_2, .int .i64 p0_3], box b49 38 [.slice A152 ((cutL t52 (if (t52.length : Int) < 1 then (t52.length : Int) else 1) (t52.length : Int)).length) c153], sl Rp.bool (.slice A152 ((cutL t52 (if (t52.length : Int) < 1 then (t52.length : Int) else 1) (t52.length : Int)).length) c153) (cutL t52 (if (t52.length : Int) < 1 then (t52.length : Int) else 1) (t52.length : Int)), box b53 26 [.int .i64 t54, .int .u16 t55, .int .u8 t56, .int .i64 t57, .int .i64 t58, .int .i64 t59], box b171 26 [.int .i64 t162, .int .u16 t163, .int .u8 t164, .int .i64 t165, .int .i64 t166, .int .i64 t167], box b179 61 [.string t195, .bool t168], dfr b61, gl 0 (tab_0.flatMap en_0), gl 1 (tab_1.flatMap en_1), gl 2 (tab_2.flatMap en_2)] → RunsI F58 [.c 22, .blk 1, .c 29, .lp 6, .blk 0] [(0, .func (.yield b43) #[] #[]), (1, .pointer (some ⟨b48, 0, none⟩)), (2, .pointer (some ⟨b49, 0, none⟩)), (4, .pointer (some ⟨b53, 0, none⟩)), (5, .int .i64 t60), (7, .pointer (some ⟨b171, 0, none⟩)), (9, .bool t169), (10, .pointer (some ⟨b179, 0, none⟩))] w197 R := by
        intro t195 w197 h h196
        rw [hJ199] at h
        clear hJ199
        dsimp only at h
        refine RunsI.go 2 [.c 24, .c 25, .c 28, .blk 1, .c 29, .lp 6, .blk 0] (by kernel_rfl) ?_
        refine RunsI.region (by kernel_rfl) ?_
        refine RegI.pure 2 [0, 1, 2, 4, 5, 7, 9, 10, 48, 49] [(0, .func (.yield b43) #[] #[]), (1, .pointer (some ⟨b48, 0, none⟩)), (2, .pointer (some ⟨b49, 0, none⟩)), (4, .pointer (some ⟨b53, 0, none⟩)), (5, .int .i64 t60), (7, .pointer (some ⟨b171, 0, none⟩)), (9, .bool t169), (10, .pointer (some ⟨b179, 0, none⟩)), (48, .func (.yield b43) #[] #[]), (49, .int .i64 t60)] (by kernel_rfl) ?_
        refine RegI.op (by kernel_rfl) (OpE.loadBox 50 8 61 b179 0 (.agg #[.string t195, .bool t168]) h196 (by kernel_rfl) (by kernel_rfl) rfl (by kernel_rfl) ?_)
        refine RegI.yield 51 b43 16 0 [.int .i64 t60, .agg #[.string t195, .bool t168]] [0, 1, 2, 4, 5, 7, 9] [(0, .func (.yield b43) #[] #[]), (1, .pointer (some ⟨b48, 0, none⟩)), (2, .pointer (some ⟨b49, 0, none⟩)), (4, .pointer (some ⟨b53, 0, none⟩)), (5, .int .i64 t60), (7, .pointer (some ⟨b171, 0, none⟩)), (9, .bool t169)] h196 (by kernel_rfl) (by kernel_rfl) (by kernel_rfl) (by kernel_rfl) rfl (by kernel_rfl) (by kernel_rfl) (by kernel_rfl) [.c 17, .bg, .c 18] (by kernel_rfl) [(15, .agg #[.string t195, .bool t168]), (14, .int .i64 t60), (5, .pointer (some ⟨b44, 0, none⟩)), (13, .func (.func 58) #[] #[.pointer (some ⟨b48, 0, none⟩), .pointer (some ⟨b49, 0, none⟩)])] (by kernel_rfl) ?_
        refine RunsI.only [5, 15] [(5, .pointer (some ⟨b44, 0, none⟩)), (15, .agg #[.string t195, .bool t168])] (by kernel_rfl) (by kernel_rfl) ?_
        refine RunsI.region (by kernel_rfl) ?_
        refine RegI.op (by kernel_rfl) (OpE.box 7 61 [.string ByteArray.empty, .bool false] h196 (by kernel_rfl) (by kernel_rfl) ?_)
        intro w201 b202 h203 hb204 hn205
        refine RegI.op (by kernel_rfl) (OpE.storeBox 13 61 b202 0 (.agg #[.string t195, .bool t168]) [.string t195, .bool t168] h203 (by kernel_rfl) (by kernel_rfl) rfl (by kernel_rfl) (by kernel_rfl) (by kernel_rfl) ?_)
        intro w206 h207 hk208
        refine RegI.done (by kernel_rfl) ?_
        refine RunsI.begin 0 h207 rfl rfl ?_
        intro w209 h210 hk211
        refine RunsI.go 1 [.c 19, .blk 1] (by kernel_rfl) ?_
        refine RunsI.region (by kernel_rfl) ?_
        refine RegI.op (by kernel_rfl) (OpE.loadBox 16 1 42 b44 0 (.slice A45 t47.length c46) h210 (by kernel_rfl) (by kernel_rfl) rfl (by kernel_rfl) ?_)
        refine RegI.pure 1 [5, 16, 17] [(5, .pointer (some ⟨b44, 0, none⟩)), (16, .slice A45 t47.length c46), (17, .pointer (some ⟨b202, 0, none⟩))] (by kernel_rfl) ?_
        refine RegI.op (by kernel_rfl) (OpE.loadBox 18 13 9 b202 0 (.string t195) h210 (by kernel_rfl) (by kernel_rfl) rfl (by kernel_rfl) ?_)
        refine RegI.op (by kernel_rfl) (OpE.lit 19 9 [.string t195] 1 h210 (by kernel_rfl) (by kernel_rfl) ?_)
        intro w212 b213 h214 hb215 hn216
        obtain ⟨hc217, h⟩ := of_cond0 h
        refine RegI.op (by kernel_rfl) (OpE.appendBox 20 2 14 42 9 16 ([t195] : List ByteArray) 0 h214 (by kernel_rfl) (by kernel_rfl) (by kernel_rfl) rfl rfl rfl (cells_str _ _ _) hc217 ?_)
        intro w218 A219 c220 h221 hk222
        refine RegI.op (by kernel_rfl) (OpE.storeBox 1 42 b44 0 (.slice A219 ((t47 ++ ([t195] : List ByteArray)).length) c220) [.slice A219 ((t47 ++ ([t195] : List ByteArray)).length) c220] h221 (by kernel_rfl) (by kernel_rfl) rfl (by kernel_rfl) (by kernel_rfl) (by kernel_rfl) ?_)
        intro w223 h224 hk225
        refine RegI.done (by kernel_rfl) ?_
        refine RunsI.go 1 [] (by kernel_rfl) ?_
        refine RunsI.roundEnd 0 h224 rfl rfl ?_
        intro w226 h227 hk228
        refine cont_mk ?_
        refine RegI.pure 4 [0, 1, 2, 4, 5, 7, 54, 55] [(0, .func (.yield b43) #[] #[]), (1, .pointer (some ⟨b48, 0, none⟩)), (2, .pointer (some ⟨b49, 0, none⟩)), (4, .pointer (some ⟨b53, 0, none⟩)), (5, .int .i64 t60), (7, .pointer (some ⟨b171, 0, none⟩)), (54, .bool t169), (55, .bool t169)] (by kernel_rfl) ?_
        refine RegI.done (by kernel_rfl) ?_
        rcases of_cond h with ⟨hc229, h⟩ | ⟨hc229, h⟩
        · skip
          refine RunsI.fix 55 true hc229 (by kernel_rfl) (by kernel_rfl) ?_
          refine RunsI.cond true 26 (by kernel_rfl) ?_
          refine RunsI.ret (.tuple #[]) (by kernel_rfl) (by kernel_rfl) ?_
          exact hk0 (t47 ++ ([t195] : List ByteArray)) (cutL t52 (if (t52.length : Int) < 1 then (t52.length : Int) else 1) (t52.length : Int)) A219 c220 A152 c153 w226 (Option.some.inj h).symm (h227.pick [1, 2, 0, 3, 4, 5, 9, 10, 11, 12] (by decide))
        · skip
          refine RunsI.fix 55 false hc229 (by kernel_rfl) (by kernel_rfl) ?_
          refine RunsI.cond false 27 (by kernel_rfl) ?_
          refine RunsI.go 1 [.c 28, .blk 1, .c 29, .lp 6, .blk 0] (by kernel_rfl) ?_
          refine RunsI.region (by kernel_rfl) ?_
          refine RegI.op (by kernel_rfl) (OpE.loadBox 56 7 26 b171 0 (.agg #[.int .i64 t162, .int .u16 t163, .int .u8 t164, .int .i64 t165, .int .i64 t166, .int .i64 t167]) h227 (by kernel_rfl) (by kernel_rfl) rfl (by kernel_rfl) ?_)
          refine RegI.op (by kernel_rfl) (OpE.storeBox 6 26 b53 0 (.agg #[.int .i64 t162, .int .u16 t163, .int .u8 t164, .int .i64 t165, .int .i64 t166, .int .i64 t167]) [.int .i64 t162, .int .u16 t163, .int .u8 t164, .int .i64 t165, .int .i64 t166, .int .i64 t167] h227 (by kernel_rfl) (by kernel_rfl) rfl (by kernel_rfl) (by kernel_rfl) (by kernel_rfl) ?_)
          intro w230 h231 hk232
          refine RegI.done (by kernel_rfl) ?_
          refine RunsI.go 1 [.c 29, .lp 6, .blk 0] (by kernel_rfl) ?_
          refine RunsI.region (by kernel_rfl) ?_
          refine RegI.pure 3 [0, 1, 2, 4, 5, 54] [(0, .func (.yield b43) #[] #[]), (1, .pointer (some ⟨b48, 0, none⟩)), (2, .pointer (some ⟨b49, 0, none⟩)), (4, .pointer (some ⟨b53, 0, none⟩)), (5, .int .i64 (IntKind.wrap .i64 (t60 + 1))), (54, .bool t169)] (by kernel_rfl) ?_
          refine RegI.done (by kernel_rfl) ?_
          refine RunsI.go 1 [.c 6, .lp 6, .blk 0] (by kernel_rfl) ?_
          refine RunsI.only [0, 1, 2, 4, 5] [(0, .func (.yield b43) #[] #[]), (1, .pointer (some ⟨b48, 0, none⟩)), (2, .pointer (some ⟨b49, 0, none⟩)), (4, .pointer (some ⟨b53, 0, none⟩)), (5, .int .i64 (IntKind.wrap .i64 (t60 + 1)))] (by kernel_rfl) (by kernel_rfl) ?_
          exact ih (t47 ++ ([t195] : List ByteArray)) (cutL t52 (if (t52.length : Int) < 1 then (t52.length : Int) else 1) (t52.length : Int)) t162 t163 t164 t165 t166 t167 (IntKind.wrap .i64 (t60 + 1)) A219 c220 A152 c153 w230 h (h231.pick [0, 1, 2, 3, 4, 5, 6, 9, 10, 11, 12] (by decide))
      clear hJ199
      rcases of_cond h with ⟨hc186, h⟩ | ⟨hc186, h⟩
      · skip
        refine RunsI.fix 41 true hc186 (by kernel_rfl) (by kernel_rfl) ?_
        refine RunsI.cond true 20 (by kernel_rfl) ?_
        refine RunsI.region (by kernel_rfl) ?_
        refine RegI.pure 1 [0, 1, 2, 4, 5, 7, 9, 10, 19, 20, 21, 42] [(0, .func (.yield b43) #[] #[]), (1, .pointer (some ⟨b48, 0, none⟩)), (2, .pointer (some ⟨b49, 0, none⟩)), (4, .pointer (some ⟨b53, 0, none⟩)), (5, .int .i64 t60), (7, .pointer (some ⟨b171, 0, none⟩)), (9, .bool t169), (10, .pointer (some ⟨b179, 0, none⟩)), (19, undef), (20, undef), (21, undef), (42, .pointer (some ⟨b48, 0, none⟩))] (by kernel_rfl) ?_
        refine RegI.op (by kernel_rfl) (OpE.loadBox 43 3 3 b48 0 (.int .i64 p0_0) h184 (by kernel_rfl) (by kernel_rfl) rfl (by kernel_rfl) ?_)
        refine RegI.pure 1 [0, 1, 2, 4, 5, 7, 9, 10, 19, 20, 21, 43, 44] [(0, .func (.yield b43) #[] #[]), (1, .pointer (some ⟨b48, 0, none⟩)), (2, .pointer (some ⟨b49, 0, none⟩)), (4, .pointer (some ⟨b53, 0, none⟩)), (5, .int .i64 t60), (7, .pointer (some ⟨b171, 0, none⟩)), (9, .bool t169), (10, .pointer (some ⟨b179, 0, none⟩)), (19, undef), (20, undef), (21, undef), (43, .int .i64 p0_0), (44, .pointer (some ⟨b171, 4, none⟩))] (by kernel_rfl) ?_
        refine RegI.op (by kernel_rfl) (OpE.loadBox 45 12 3 b171 4 (.int .i64 t166) h184 (by kernel_rfl) (by kernel_rfl) rfl (by kernel_rfl) ?_)
        obtain ⟨t191, hg190, h⟩ := of_bind h
        refine RegI.op (by kernel_rfl) (OpE.call 46 (by kernel_rfl) 59 #[.int .i64 p0_0, .int .i64 t166] (by kernel_rfl) ((cycle_name_59_ok K _ w183  p0_0 t166 h184.old' (h184.get 8 rfl) (h184.get 9 rfl) (h184.get 10 rfl) hg190).mono ?_))
        rintro _ w187 ⟨rfl, hb188⟩
        refine ⟨_, rfl, ?_⟩
        have h189 := h184.call hb188
        refine RegI.pure 1 [0, 1, 2, 4, 5, 7, 9, 10, 19, 20, 21, 46, 47] [(0, .func (.yield b43) #[] #[]), (1, .pointer (some ⟨b48, 0, none⟩)), (2, .pointer (some ⟨b49, 0, none⟩)), (4, .pointer (some ⟨b53, 0, none⟩)), (5, .int .i64 t60), (7, .pointer (some ⟨b171, 0, none⟩)), (9, .bool t169), (10, .pointer (some ⟨b179, 0, none⟩)), (19, undef), (20, undef), (21, undef), (46, .string t191), (47, .pointer (some ⟨b179, 0, none⟩))] (by kernel_rfl) ?_
        refine RegI.op (by kernel_rfl) (OpE.storeBox 13 9 b179 0 (.string t191) [.string t191, .bool t168] h189 (by kernel_rfl) (by kernel_rfl) rfl (by kernel_rfl) (by kernel_rfl) (by kernel_rfl) ?_)
        intro w192 h193 hk194
        refine RegI.done (by kernel_rfl) ?_
        refine RunsI.only [0, 1, 2, 4, 5, 7, 9, 10] [(0, .func (.yield b43) #[] #[]), (1, .pointer (some ⟨b48, 0, none⟩)), (2, .pointer (some ⟨b49, 0, none⟩)), (4, .pointer (some ⟨b53, 0, none⟩)), (5, .int .i64 t60), (7, .pointer (some ⟨b171, 0, none⟩)), (9, .bool t169), (10, .pointer (some ⟨b179, 0, none⟩))] (by kernel_rfl) (by kernel_rfl) ?_
        exact hj200 t191 w192 h (h193.pick [0, 1, 2, 3, 4, 11, 6, 12, 13, 7, 8, 9, 10] (by decide))
      · skip
        refine RunsI.fix 41 false hc186 (by kernel_rfl) (by kernel_rfl) ?_
        refine RunsI.cond false 21 (by kernel_rfl) ?_
        refine RunsI.go 1 [.c 22, .blk 1, .c 29, .lp 6, .blk 0] (by kernel_rfl) ?_
        refine RunsI.only [0, 1, 2, 4, 5, 7, 9, 10] [(0, .func (.yield b43) #[] #[]), (1, .pointer (some ⟨b48, 0, none⟩)), (2, .pointer (some ⟨b49, 0, none⟩)), (4, .pointer (some ⟨b53, 0, none⟩)), (5, .int .i64 t60), (7, .pointer (some ⟨b171, 0, none⟩)), (9, .bool t169), (10, .pointer (some ⟨b179, 0, none⟩))] (by kernel_rfl) (by kernel_rfl) ?_
        exact hj200 (⟨#[84, 87]⟩ : ByteArray) w183 h (h184.pick [0, 1, 2, 3, 4, 11, 6, 12, 13, 7, 8, 9, 10] (by decide))
def cycle_Names_21.f (K : Nat) (p0_0 : Int) (p0_1 : Int) (p0_2 : Int) (p0_3 : Int) (p1 : List Bool) : Option (List ByteArray) := (cycle_Check_14.f K p0_0 p0_1 p0_2 p0_3).bind fun t10 => cond (t10 != 0) (some ([] : List ByteArray)) ((cycle_Names_21.l0 K p0_0 p0_1 p0_2 p0_3 p1 K ([] : List ByteArray) p1 p0_0 p0_1 p0_2 p0_3 0 0 1).bind (fun yx239 => some yx239.1))
set_option maxRecDepth 100000 in
theorem cycle_Names_21_ok (K : Nat) (M0 : Nat → Prop) (w0 : World) (pA1 : Option Addr) (pc1 : Nat) (p0_0 : Int) (p0_1 : Int) (p0_2 : Int) (p0_3 : Int) (p1 : List Bool) (ho : ∀ b, M0 b → b < w0.heap.size) (hs1 : Sl Rp.bool w0 M0 (.slice pA1 p1.length pc1) p1) (hG0 : (gl 0 (tab_0.flatMap en_0)).ok w0 M0) (hG1 : (gl 1 (tab_1.flatMap en_1)).ok w0 M0) (hG2 : (gl 2 (tab_2.flatMap en_2)).ok w0 M0) {r : (List ByteArray)} (h : cycle_Names_21.f K p0_0 p0_1 p0_2 p0_3 p1 = some r) :
    Calls Tryd.prog 21 #[.agg #[.int .i64 p0_0, .int .u16 p0_1, .int .u8 p0_2, .int .i64 p0_3], .slice pA1 p1.length pc1] w0 (cycle_Names_21.post M0 w0 r) := by
  unfold cycle_Names_21.f at h
  have h0 : Holds M0 w0 w0 [] := Holds.start ho
  have h01 := h0.addSl Rp.bool (.slice pA1 p1.length pc1) p1 (hs1.mono (fun _ _ hm => hm.elim id (fun hm => absurd hm (by simp [mines, sl]))))
  have h0g0 := h01.add (gl 0 (tab_0.flatMap en_0)) rfl ⟨hG0.1, fun hm => hG0.2.1 (hm.elim id (fun hm => absurd hm (by simp [mines, sl, gl]))), hG0.2.2⟩
  have h0g1 := h0g0.add (gl 1 (tab_1.flatMap en_1)) rfl ⟨hG1.1, fun hm => hG1.2.1 (hm.elim id (fun hm => absurd hm (by simp [mines, sl, gl]))), hG1.2.2⟩
  have h0g2 := h0g1.add (gl 2 (tab_2.flatMap en_2)) rfl ⟨hG2.1, fun hm => hG2.2.1 (hm.elim id (fun hm => absurd hm (by simp [mines, sl, gl]))), hG2.2.2⟩
  have h0 : Holds M0 w0 w0 [sl Rp.bool (.slice pA1 p1.length pc1) p1, gl 0 (tab_0.flatMap en_0), gl 1 (tab_1.flatMap en_1), gl 2 (tab_2.flatMap en_2)] := h0g2
  refine calls_of F21 rfl [.agg #[.int .i64 p0_0, .int .u16 p0_1, .int .u8 p0_2, .int .i64 p0_3], .slice pA1 p1.length pc1] (by kernel_rfl) ?_
  refine RunsI.go 1 [.c 1, .c 2] (by kernel_rfl) ?_
  refine RunsI.region (by kernel_rfl) ?_
  refine RegI.op (by kernel_rfl) (OpE.box 2 24 [.int .i64 p0_0, .int .u16 p0_1, .int .u8 p0_2, .int .i64 p0_3] h0 (by kernel_rfl) (by kernel_rfl) ?_)
  intro w1 b2 h3 hb4 hn5
  refine RegI.pure 1 [1, 2] [(1, .slice pA1 p1.length pc1), (2, .pointer (some ⟨b2, 0, none⟩))] (by kernel_rfl) ?_
  refine RegI.done (by kernel_rfl) ?_
  refine RunsI.go 2 [.c 4, .c 5, .c 10] (by kernel_rfl) ?_
  refine RunsI.region (by kernel_rfl) ?_
  refine RegI.op (by kernel_rfl) (OpE.loadBox 8 4 24 b2 0 (.agg #[.int .i64 p0_0, .int .u16 p0_1, .int .u8 p0_2, .int .i64 p0_3]) h3 (by kernel_rfl) (by kernel_rfl) rfl (by kernel_rfl) ?_)
  obtain ⟨t10, hg9, h⟩ := of_bind h
  refine RegI.op (by kernel_rfl) (OpE.call 9 (by kernel_rfl) 14 #[.agg #[.int .i64 p0_0, .int .u16 p0_1, .int .u8 p0_2, .int .i64 p0_3]] (by kernel_rfl) ((cycle_Check_14_ok K _ w1  p0_0 p0_1 p0_2 p0_3 h3.old' (h3.get 1 rfl) hg9).mono ?_))
  rintro _ w6 ⟨rfl, hb7⟩
  refine ⟨_, rfl, ?_⟩
  have h8 := h3.call hb7
  refine RegI.pure 1 [1, 2, 10] [(1, .slice pA1 p1.length pc1), (2, .pointer (some ⟨b2, 0, none⟩)), (10, .bool (t10 != 0))] (by kernel_rfl) ?_
  refine RegI.done (by kernel_rfl) ?_
  rcases of_cond h with ⟨hc11, h⟩ | ⟨hc11, h⟩
  · skip
    refine RunsI.fix 10 true hc11 (by kernel_rfl) (by kernel_rfl) ?_
    refine RunsI.cond true 6 (by kernel_rfl) ?_
    refine RunsI.go 1 [.c 7, .c 8, .c 10] (by kernel_rfl) ?_
    refine RunsI.region (by kernel_rfl) ?_
    refine RegI.pure 1 [4] [(4, .slice none 0 0)] (by kernel_rfl) ?_
    refine RegI.done (by kernel_rfl) ?_
    refine RunsI.ret (.slice none 0 0) (by kernel_rfl) (by kernel_rfl) ?_
    have h255 := h8.addOwnNil Rp.str 9
    obtain rfl := Option.some.inj h
    exact ⟨none, 0, rfl, h255.pick [5] (by decide)⟩
  · skip
    refine RunsI.fix 10 false hc11 (by kernel_rfl) (by kernel_rfl) ?_
    refine RunsI.cond false 9 (by kernel_rfl) ?_
    refine RunsI.go 1 [.c 10] (by kernel_rfl) ?_
    refine RunsI.go 1 [.c 11, .c 12] (by kernel_rfl) ?_
    refine RunsI.region (by kernel_rfl) ?_
    refine RegI.op (by kernel_rfl) (OpE.box 5 42 [.slice none 0 0] h8 (by kernel_rfl) (by kernel_rfl) ?_)
    intro w12 b13 h14 hb15 hn16
    refine RegI.done (by kernel_rfl) ?_
    refine RunsI.go 2 [.c 14, .c 15, .c 20] (by kernel_rfl) ?_
    refine RunsI.region (by kernel_rfl) ?_
    refine RegI.op (by kernel_rfl) (OpE.loadBox 11 4 24 b2 0 (.agg #[.int .i64 p0_0, .int .u16 p0_1, .int .u8 p0_2, .int .i64 p0_3]) h14 (by kernel_rfl) (by kernel_rfl) rfl (by kernel_rfl) ?_)
    refine RegI.pure 1 [5, 11, 12] [(5, .pointer (some ⟨b13, 0, none⟩)), (11, .agg #[.int .i64 p0_0, .int .u16 p0_1, .int .u8 p0_2, .int .i64 p0_3]), (12, .slice pA1 p1.length pc1)] (by kernel_rfl) ?_
    refine RegI.enter 13 [5] [(5, .pointer (some ⟨b13, 0, none⟩))] (by kernel_rfl) (by kernel_rfl) (by kernel_rfl) (by kernel_rfl) F42 42 rfl [.agg #[.int .i64 p0_0, .int .u16 p0_1, .int .u8 p0_2, .int .i64 p0_3], .slice pA1 p1.length pc1] (by kernel_rfl) (by kernel_rfl) ?_
    refine RunsI.go 1 [.c 1, .c 2] (by kernel_rfl) ?_
    refine RunsI.region (by kernel_rfl) ?_
    refine RegI.op (by kernel_rfl) (OpE.box 2 24 [.int .i64 p0_0, .int .u16 p0_1, .int .u8 p0_2, .int .i64 p0_3] h14 (by kernel_rfl) (by kernel_rfl) ?_)
    intro w17 b18 h19 hb20 hn21
    refine RegI.op (by kernel_rfl) (OpE.box 3 38 [.slice pA1 p1.length pc1] h19 (by kernel_rfl) (by kernel_rfl) ?_)
    intro w22 b23 h24 hb25 hn26
    refine RegI.pure 1 [2, 3] [(2, .pointer (some ⟨b18, 0, none⟩)), (3, .pointer (some ⟨b23, 0, none⟩))] (by kernel_rfl) ?_
    refine RegI.done (by kernel_rfl) ?_
    refine RunsI.go 1 [.c 3, .c 4] (by kernel_rfl) ?_
    refine RunsI.region (by kernel_rfl) ?_
    refine RegI.pure 2 [4] [(4, .func (.func 58) #[] #[.pointer (some ⟨b18, 0, none⟩), .pointer (some ⟨b23, 0, none⟩)])] (by kernel_rfl) ?_
    refine RegI.done (by kernel_rfl) ?_
    refine RunsI.ret (.func (.func 58) #[] #[.pointer (some ⟨b18, 0, none⟩), .pointer (some ⟨b23, 0, none⟩)]) (by kernel_rfl) (by kernel_rfl) ?_
    refine cont_mk ?_
    refine RegI.done (by kernel_rfl) ?_
    refine RunsI.go 1 [.c 16, .blk 0, .c 20] (by kernel_rfl) ?_
    refine RunsI.rangeFunc (G := F58) [5, 13] [(5, .pointer (some ⟨b13, 0, none⟩)), (13, .func (.func 58) #[] #[.pointer (some ⟨b18, 0, none⟩), .pointer (some ⟨b23, 0, none⟩)])] 58 [.pointer (some ⟨b18, 0, none⟩), .pointer (some ⟨b23, 0, none⟩)] h24 (by kernel_rfl) (by kernel_rfl) (by kernel_rfl) (fun _ _ => by kernel_rfl) rfl rfl (by kernel_rfl) rfl rfl ?_
    intro b27 b28 w29 h30 hb31 hn32 hn33
    refine RunsI.go 1 [.c 1, .c 2] (by kernel_rfl) ?_
    refine RunsI.region (by kernel_rfl) ?_
    refine RegI.op (by kernel_rfl) (OpE.loadBox 11 6 24 b18 0 (.agg #[.int .i64 p0_0, .int .u16 p0_1, .int .u8 p0_2, .int .i64 p0_3]) h30 (by kernel_rfl) (by kernel_rfl) rfl (by kernel_rfl) ?_)
    refine RegI.pure 1 [0, 1, 2, 12] [(0, .func (.yield b28) #[] #[]), (1, .pointer (some ⟨b18, 0, none⟩)), (2, .pointer (some ⟨b23, 0, none⟩)), (12, .agg #[.int .i64 p0_0, .int .u16 p0_1, .int .u8 p0_2, .int .i64 p0_3, .int .i64 0, .int .i64 0])] (by kernel_rfl) ?_
    refine RegI.op (by kernel_rfl) (OpE.box 4 26 [.int .i64 0, .int .u16 0, .int .u8 0, .int .i64 0, .int .i64 0, .int .i64 0] h30 (by kernel_rfl) (by kernel_rfl) ?_)
    intro w34 b35 h36 hb37 hn38
    refine RegI.op (by kernel_rfl) (OpE.storeBox 10 26 b35 0 (.agg #[.int .i64 p0_0, .int .u16 p0_1, .int .u8 p0_2, .int .i64 p0_3, .int .i64 0, .int .i64 0]) [.int .i64 p0_0, .int .u16 p0_1, .int .u8 p0_2, .int .i64 p0_3, .int .i64 0, .int .i64 0] h36 (by kernel_rfl) (by kernel_rfl) rfl (by kernel_rfl) (by kernel_rfl) (by kernel_rfl) ?_)
    intro w39 h40 hk41
    refine RegI.done (by kernel_rfl) ?_
    refine RunsI.go 1 [.c 3, .c 4] (by kernel_rfl) ?_
    refine RunsI.region (by kernel_rfl) ?_
    refine RegI.pure 1 [0, 1, 2, 4, 5] [(0, .func (.yield b28) #[] #[]), (1, .pointer (some ⟨b18, 0, none⟩)), (2, .pointer (some ⟨b23, 0, none⟩)), (4, .pointer (some ⟨b35, 0, none⟩)), (5, .int .i64 1)] (by kernel_rfl) ?_
    refine RegI.done (by kernel_rfl) ?_
    refine RunsI.go 2 [.c 6, .lp 6, .blk 0] (by kernel_rfl) ?_
    obtain ⟨x239, hx240, h⟩ := of_bind h
    have h42 := h40.addOwnNil Rp.str 9
    refine RunsI.only [0, 1, 2, 4, 5] [(0, .func (.yield b28) #[] #[]), (1, .pointer (some ⟨b18, 0, none⟩)), (2, .pointer (some ⟨b23, 0, none⟩)), (4, .pointer (some ⟨b35, 0, none⟩)), (5, .int .i64 1)] (by kernel_rfl) (by kernel_rfl) ?_
    refine cycle_Names_21.l0_ok K M0 w0 pA1 pc1 p0_0 p0_1 p0_2 p0_3 p1 b28 b13 b18 b23 b35 b27 _ x239 ?_ K ([] : List ByteArray) p1 p0_0 p0_1 p0_2 p0_3 0 0 1 none 0 pA1 pc1 w39 hx240 (h42.pick [9, 5, 11, 6, 7, 0, 10, 8, 1, 2, 3] (by decide))
    · intro t243 t246 A241 c242 A244 c245 w248 hq256 h247
      (try rw [hq256] at h)
      dsimp only at h
      refine contR_mk ?_
      refine RunsI.endLoop 2 h247 rfl rfl (by intro hh; cases hh) [.blk 0, .c 20] (by kernel_rfl) ?_
      intro w249 h250 hk251
      refine RunsI.go 2 [.c 21, .c 22] (by kernel_rfl) ?_
      refine RunsI.region (by kernel_rfl) ?_
      refine RegI.op (by kernel_rfl) (OpE.loadBox 21 0 42 b13 0 (.slice A241 t243.length c242) h250 (by kernel_rfl) (by kernel_rfl) rfl (by kernel_rfl) ?_)
      refine RegI.pure 1 [4] [(4, .slice A241 t243.length c242)] (by kernel_rfl) ?_
      refine RegI.done (by kernel_rfl) ?_
      refine RunsI.toRet (by kernel_rfl) ?_
      refine RetI.takeH 6 b27 h250 rfl ?_
      intro w252 h253 hk254
      refine RetI.val (.slice A241 t243.length c242) (by kernel_rfl) ?_
      obtain rfl := Option.some.inj h
      exact ⟨A241, c242, rfl, h253.pick [1] (by decide)⟩
end

/-! ### charabanc/charabanclaw17.awake (function 10) -/
section
def charabanclaw17_awake_10.post (M0 : Nat → Prop) (w0 : World) (r : Bool) : Ending → World → Prop := fun e w => e = .returned (.bool r) ∧ Below w0.heap.size w0 w
def charabanclaw17_awake_10.f (K : Nat) : Option Bool := (cycle_Take_18.f K 2 0 0 3 ([false, true, true, false] : List Bool)).bind fun yt20 => (cycle_Tick_11.f K 2 0 0 3 2 0 true).bind fun yt26 => cond (yt20.1 == 5) (cond (yt20.2 == 5) ((cycle_Names_21.f K 2 0 0 3 ([false, true, true] : List Bool)).bind fun t55 => (charabancref09_Same_20.f K t55 ([(⟨#[84, 49]⟩ : ByteArray), (⟨#[84, 87]⟩ : ByteArray), (⟨#[84, 87]⟩ : ByteArray), (⟨#[84, 50]⟩ : ByteArray), (⟨#[84, 51]⟩ : ByteArray)] : List ByteArray)).bind fun t71 => cond t71 (cond (yt26.2.2.2.2.1 == 3) (cond yt26.2.2.2.2.2.2.1 (cond yt26.2.2.2.2.2.2.2 ((cycle_Sample_16.f K 4).bind fun t80 => cond (t80 == 3) ((cycle_Check_14.f K 0 0 0 0).bind fun t86 => some (t86 == 1)) (some false)) (some false)) (some false)) (some false)) (some false)) (some false)) (some false)
set_option maxRecDepth 100000 in
theorem charabanclaw17_awake_10_ok (K : Nat) (M0 : Nat → Prop) (w0 : World) (ho : ∀ b, M0 b → b < w0.heap.size) (hG0 : (gl 0 (tab_0.flatMap en_0)).ok w0 M0) (hG1 : (gl 1 (tab_1.flatMap en_1)).ok w0 M0) (hG2 : (gl 2 (tab_2.flatMap en_2)).ok w0 M0) {r : Bool} (h : charabanclaw17_awake_10.f K = some r) :
    Calls Tryd.prog 10 #[] w0 (charabanclaw17_awake_10.post M0 w0 r) := by
  unfold charabanclaw17_awake_10.f at h
  have h0 : Holds M0 w0 w0 [] := Holds.start ho
  have h0g0 := h0.add (gl 0 (tab_0.flatMap en_0)) rfl ⟨hG0.1, fun hm => hG0.2.1 (hm.elim id (fun hm => absurd hm (by simp [mines, sl, gl]))), hG0.2.2⟩
  have h0g1 := h0g0.add (gl 1 (tab_1.flatMap en_1)) rfl ⟨hG1.1, fun hm => hG1.2.1 (hm.elim id (fun hm => absurd hm (by simp [mines, sl, gl]))), hG1.2.2⟩
  have h0g2 := h0g1.add (gl 2 (tab_2.flatMap en_2)) rfl ⟨hG2.1, fun hm => hG2.2.1 (hm.elim id (fun hm => absurd hm (by simp [mines, sl, gl]))), hG2.2.2⟩
  have h0 : Holds M0 w0 w0 [gl 0 (tab_0.flatMap en_0), gl 1 (tab_1.flatMap en_1), gl 2 (tab_2.flatMap en_2)] := h0g2
  refine calls_of F10 rfl [] (by kernel_rfl) ?_
  refine RunsI.go 1 [.c 1, .c 2] (by kernel_rfl) ?_
  refine RunsI.region (by kernel_rfl) ?_
  refine RegI.pure 1 [] [] (by kernel_rfl) ?_
  refine RegI.done (by kernel_rfl) ?_
  refine RunsI.go 1 [.c 3, .c 4] (by kernel_rfl) ?_
  refine RunsI.region (by kernel_rfl) ?_
  refine RegI.pure 1 [7] [(7, .agg #[.int .i64 2, .int .u16 0, .int .u8 0, .int .i64 3])] (by kernel_rfl) ?_
  refine RegI.op (by kernel_rfl) (OpE.box 1 24 [.int .i64 0, .int .u16 0, .int .u8 0, .int .i64 0] h0 (by kernel_rfl) (by kernel_rfl) ?_)
  intro w1 b2 h3 hb4 hn5
  refine RegI.op (by kernel_rfl) (OpE.storeBox 3 24 b2 0 (.agg #[.int .i64 2, .int .u16 0, .int .u8 0, .int .i64 3]) [.int .i64 2, .int .u16 0, .int .u8 0, .int .i64 3] h3 (by kernel_rfl) (by kernel_rfl) rfl (by kernel_rfl) (by kernel_rfl) (by kernel_rfl) ?_)
  intro w6 h7 hk8
  refine RegI.done (by kernel_rfl) ?_
  refine RunsI.go 1 [.c 5, .c 6] (by kernel_rfl) ?_
  refine RunsI.region (by kernel_rfl) ?_
  refine RegI.op (by kernel_rfl) (OpE.loadBox 9 3 24 b2 0 (.agg #[.int .i64 2, .int .u16 0, .int .u8 0, .int .i64 3]) h7 (by kernel_rfl) (by kernel_rfl) rfl (by kernel_rfl) ?_)
  refine RegI.op (by kernel_rfl) (OpE.lit 10 4 [.bool false, .bool true, .bool true, .bool false] 4 h7 (by kernel_rfl) (by kernel_rfl) ?_)
  intro w9 b10 h11 hb12 hn13
  obtain ⟨⟨t20, t21⟩, hg19, h⟩ := of_bind h
  dsimp only at h
  have h14 := h11.boxOwn 4 rfl Rp.bool ([false, true, true, false] : List Bool) (cells_bool _ _ _) (Nat.le_of_ble_eq_true (by kernel_rfl))
  have h15 := h14.release 4 rfl
  refine RegI.op (by kernel_rfl) (OpE.call 11 (by kernel_rfl) 18 #[.agg #[.int .i64 2, .int .u16 0, .int .u8 0, .int .i64 3], .slice (some ⟨b10, 0, none⟩) (([false, true, true, false] : List Bool).length) 4] (by kernel_rfl) ((cycle_Take_18_ok K _ w9  (some ⟨b10, 0, none⟩) 4 2 0 0 3 ([false, true, true, false] : List Bool) h15.old' (h15.get 4 rfl) (h15.get 0 rfl) (h15.get 1 rfl) (h15.get 2 rfl) hg19).mono ?_))
  rintro _ w16 ⟨rfl, hb17⟩
  refine ⟨_, rfl, ?_⟩
  have h18 := h15.call hb17
  refine RegI.pure 5 [1, 2, 3] [(1, .pointer (some ⟨b2, 0, none⟩)), (2, .int .i64 t20), (3, .int .i64 t21)] (by kernel_rfl) ?_
  refine RegI.done (by kernel_rfl) ?_
  refine RunsI.go 1 [.c 7, .c 8] (by kernel_rfl) ?_
  refine RunsI.region (by kernel_rfl) ?_
  refine RegI.op (by kernel_rfl) (OpE.loadBox 15 3 24 b2 0 (.agg #[.int .i64 2, .int .u16 0, .int .u8 0, .int .i64 3]) h18 (by kernel_rfl) (by kernel_rfl) rfl (by kernel_rfl) ?_)
  refine RegI.pure 1 [1, 2, 3, 16] [(1, .pointer (some ⟨b2, 0, none⟩)), (2, .int .i64 t20), (3, .int .i64 t21), (16, .agg #[.int .i64 2, .int .u16 0, .int .u8 0, .int .i64 3, .int .i64 2, .int .i64 0])] (by kernel_rfl) ?_
  obtain ⟨⟨t26, t27, t28, t29, t30, t31, t32, t33⟩, hg25, h⟩ := of_bind h
  dsimp only at h
  refine RegI.op (by kernel_rfl) (OpE.call 17 (by kernel_rfl) 11 #[.agg #[.int .i64 2, .int .u16 0, .int .u8 0, .int .i64 3, .int .i64 2, .int .i64 0], .bool true] (by kernel_rfl) ((cycle_Tick_11_ok K _ w16  2 0 0 3 2 0 true h18.old' (h18.get 0 rfl) hg25).mono ?_))
  rintro _ w22 ⟨rfl, hb23⟩
  refine ⟨_, rfl, ?_⟩
  have h24 := h18.call hb23
  refine RegI.pure 4 [1, 2, 3, 18, 19, 20] [(1, .pointer (some ⟨b2, 0, none⟩)), (2, .int .i64 t20), (3, .int .i64 t21), (18, .agg #[.int .i64 t26, .int .u16 t27, .int .u8 t28, .int .i64 t29, .int .i64 t30, .int .i64 t31]), (19, .bool t32), (20, .bool t33)] (by kernel_rfl) ?_
  refine RegI.op (by kernel_rfl) (OpE.box 4 26 [.int .i64 0, .int .u16 0, .int .u8 0, .int .i64 0, .int .i64 0, .int .i64 0] h24 (by kernel_rfl) (by kernel_rfl) ?_)
  intro w34 b35 h36 hb37 hn38
  refine RegI.op (by kernel_rfl) (OpE.storeBox 5 26 b35 0 (.agg #[.int .i64 t26, .int .u16 t27, .int .u8 t28, .int .i64 t29, .int .i64 t30, .int .i64 t31]) [.int .i64 t26, .int .u16 t27, .int .u8 t28, .int .i64 t29, .int .i64 t30, .int .i64 t31] h36 (by kernel_rfl) (by kernel_rfl) rfl (by kernel_rfl) (by kernel_rfl) (by kernel_rfl) ?_)
  intro w39 h40 hk41
  refine RegI.pure 2 [1, 2, 3, 4, 5, 6] [(1, .pointer (some ⟨b2, 0, none⟩)), (2, .int .i64 t20), (3, .int .i64 t21), (4, .pointer (some ⟨b35, 0, none⟩)), (5, .bool t32), (6, .bool t33)] (by kernel_rfl) ?_
  refine RegI.done (by kernel_rfl) ?_
  refine RunsI.go 1 [.c 9, .c 10] (by kernel_rfl) ?_
  refine RunsI.region (by kernel_rfl) ?_
  refine RegI.pure 3 [1, 3, 4, 5, 6, 23] [(1, .pointer (some ⟨b2, 0, none⟩)), (3, .int .i64 t21), (4, .pointer (some ⟨b35, 0, none⟩)), (5, .bool t32), (6, .bool t33), (23, .bool (t20 == 5))] (by kernel_rfl) ?_
  rcases of_cond h with ⟨hc42, h⟩ | ⟨hc42, h⟩
  · skip
    refine RegI.fix 23 true hc42 (by kernel_rfl) (by kernel_rfl) ?_
    refine RegI.pure 4 [1, 4, 5, 6, 27] [(1, .pointer (some ⟨b2, 0, none⟩)), (4, .pointer (some ⟨b35, 0, none⟩)), (5, .bool t32), (6, .bool t33), (27, .bool (t21 == 5))] (by kernel_rfl) ?_
    rcases of_cond h with ⟨hc43, h⟩ | ⟨hc43, h⟩
    · skip
      refine RegI.fix 27 true hc43 (by kernel_rfl) (by kernel_rfl) ?_
      refine RegI.op (by kernel_rfl) (OpE.loadBox 28 3 24 b2 0 (.agg #[.int .i64 2, .int .u16 0, .int .u8 0, .int .i64 3]) h40 (by kernel_rfl) (by kernel_rfl) rfl (by kernel_rfl) ?_)
      refine RegI.op (by kernel_rfl) (OpE.lit 29 4 [.bool false, .bool true, .bool true] 3 h40 (by kernel_rfl) (by kernel_rfl) ?_)
      intro w44 b45 h46 hb47 hn48
      obtain ⟨t55, hg54, h⟩ := of_bind h
      have h49 := h46.boxOwn 6 rfl Rp.bool ([false, true, true] : List Bool) (cells_bool _ _ _) (Nat.le_of_ble_eq_true (by kernel_rfl))
      have h50 := h49.release 6 rfl
      refine RegI.op (by kernel_rfl) (OpE.call 30 (by kernel_rfl) 21 #[.agg #[.int .i64 2, .int .u16 0, .int .u8 0, .int .i64 3], .slice (some ⟨b45, 0, none⟩) (([false, true, true] : List Bool).length) 3] (by kernel_rfl) ((cycle_Names_21_ok K _ w44  (some ⟨b45, 0, none⟩) 3 2 0 0 3 ([false, true, true] : List Bool) h50.old' (h50.get 6 rfl) (h50.get 0 rfl) (h50.get 1 rfl) (h50.get 2 rfl) hg54).mono ?_))
      rintro _ w51 ⟨A56, c57, rfl, hr59⟩
      refine ⟨_, rfl, ?_⟩
      have hb52 := hr59.below
      have h53 := h50.join hr59
      refine RegI.op (by kernel_rfl) (OpE.lit 31 9 [.string (⟨#[84, 49]⟩ : ByteArray), .string (⟨#[84, 87]⟩ : ByteArray), .string (⟨#[84, 87]⟩ : ByteArray), .string (⟨#[84, 50]⟩ : ByteArray), .string (⟨#[84, 51]⟩ : ByteArray)] 5 h53 (by kernel_rfl) (by kernel_rfl) ?_)
      intro w60 b61 h62 hb63 hn64
      obtain ⟨t71, hg70, h⟩ := of_bind h
      have h65 := h62.boxOwn 8 rfl Rp.str ([(⟨#[84, 49]⟩ : ByteArray), (⟨#[84, 87]⟩ : ByteArray), (⟨#[84, 87]⟩ : ByteArray), (⟨#[84, 50]⟩ : ByteArray), (⟨#[84, 51]⟩ : ByteArray)] : List ByteArray) (cells_str _ _ _) (Nat.le_of_ble_eq_true (by kernel_rfl))
      have h66 := h65.release 8 rfl
      refine RegI.op (by kernel_rfl) (OpE.call 32 (by kernel_rfl) 20 #[.slice A56 t55.length c57, .slice (some ⟨b61, 0, none⟩) (([(⟨#[84, 49]⟩ : ByteArray), (⟨#[84, 87]⟩ : ByteArray), (⟨#[84, 87]⟩ : ByteArray), (⟨#[84, 50]⟩ : ByteArray), (⟨#[84, 51]⟩ : ByteArray)] : List ByteArray).length) 5] (by kernel_rfl) ((charabancref09_Same_20_ok K (fun _ => False) w60  A56 c57 (some ⟨b61, 0, none⟩) 5 t55 ([(⟨#[84, 49]⟩ : ByteArray), (⟨#[84, 87]⟩ : ByteArray), (⟨#[84, 87]⟩ : ByteArray), (⟨#[84, 50]⟩ : ByteArray), (⟨#[84, 51]⟩ : ByteArray)] : List ByteArray) (fun _ hf => hf.elim) (h66.ownSl 7 rfl) (h66.slAny 8 rfl) hg70).mono ?_))
      rintro _ w67 ⟨rfl, hb68⟩
      refine ⟨_, rfl, ?_⟩
      have h69 := h66.call hb68
      refine RegI.pure 2 [4, 5, 6, 34] [(4, .pointer (some ⟨b35, 0, none⟩)), (5, .bool t32), (6, .bool t33), (34, .bool t71)] (by kernel_rfl) ?_
      rcases of_cond h with ⟨hc72, h⟩ | ⟨hc72, h⟩
      · skip
        refine RegI.fix 34 true hc72 (by kernel_rfl) (by kernel_rfl) ?_
        refine RegI.pure 1 [5, 6, 34, 35] [(5, .bool t32), (6, .bool t33), (34, .bool true), (35, .pointer (some ⟨b35, 4, none⟩))] (by kernel_rfl) ?_
        refine RegI.op (by kernel_rfl) (OpE.loadBox 36 5 3 b35 4 (.int .i64 t30) h69 (by kernel_rfl) (by kernel_rfl) rfl (by kernel_rfl) ?_)
        refine RegI.pure 3 [5, 6, 39] [(5, .bool t32), (6, .bool t33), (39, .bool (t30 == 3))] (by kernel_rfl) ?_
        rcases of_cond h with ⟨hc73, h⟩ | ⟨hc73, h⟩
        · skip
          refine RegI.fix 39 true hc73 (by kernel_rfl) (by kernel_rfl) ?_
          refine RegI.pure 3 [6, 42] [(6, .bool t33), (42, .bool t32)] (by kernel_rfl) ?_
          rcases of_cond h with ⟨hc74, h⟩ | ⟨hc74, h⟩
          · skip
            refine RegI.fix 42 true hc74 (by kernel_rfl) (by kernel_rfl) ?_
            refine RegI.pure 3 [45] [(45, .bool t33)] (by kernel_rfl) ?_
            rcases of_cond h with ⟨hc75, h⟩ | ⟨hc75, h⟩
            · skip
              refine RegI.fix 45 true hc75 (by kernel_rfl) (by kernel_rfl) ?_
              obtain ⟨t80, hg79, h⟩ := of_bind h
              refine RegI.op (by kernel_rfl) (OpE.call 46 (by kernel_rfl) 16 #[.int .i64 4] (by kernel_rfl) ((cycle_Sample_16_ok K _ w67  4 h69.old' (h69.get 0 rfl) hg79).mono ?_))
              rintro _ w76 ⟨rfl, hb77⟩
              refine ⟨_, rfl, ?_⟩
              have h78 := h69.call hb77
              refine RegI.pure 3 [49] [(49, .bool (t80 == 3))] (by kernel_rfl) ?_
              rcases of_cond h with ⟨hc81, h⟩ | ⟨hc81, h⟩
              · skip
                refine RegI.fix 49 true hc81 (by kernel_rfl) (by kernel_rfl) ?_
                refine RegI.pure 1 [49, 50] [(49, .bool true), (50, .agg #[.int .i64 0, .int .u16 0, .int .u8 0, .int .i64 0])] (by kernel_rfl) ?_
                obtain ⟨t86, hg85, h⟩ := of_bind h
                refine RegI.op (by kernel_rfl) (OpE.call 51 (by kernel_rfl) 14 #[.agg #[.int .i64 0, .int .u16 0, .int .u8 0, .int .i64 0]] (by kernel_rfl) ((cycle_Check_14_ok K _ w76  0 0 0 0 h78.old' (h78.get 0 rfl) hg85).mono ?_))
                rintro _ w82 ⟨rfl, hb83⟩
                refine ⟨_, rfl, ?_⟩
                have h84 := h78.call hb83
                refine RegI.pure 3 [0] [(0, .bool (t86 == 1))] (by kernel_rfl) ?_
                refine RegI.done (by kernel_rfl) ?_
                refine RunsI.ret (.bool (t86 == 1)) (by kernel_rfl) (by kernel_rfl) ?_
                obtain rfl := Option.some.inj h
                exact ⟨rfl, h84.below⟩
              · skip
                refine RegI.fix 49 false hc81 (by kernel_rfl) (by kernel_rfl) ?_
                refine RegI.pure 5 [0] [(0, .bool false)] (by kernel_rfl) ?_
                refine RegI.done (by kernel_rfl) ?_
                refine RunsI.ret (.bool false) (by kernel_rfl) (by kernel_rfl) ?_
                obtain rfl := Option.some.inj h
                exact ⟨rfl, h78.below⟩
            · skip
              refine RegI.fix 45 false hc75 (by kernel_rfl) (by kernel_rfl) ?_
              refine RegI.pure 9 [0] [(0, .bool false)] (by kernel_rfl) ?_
              refine RegI.done (by kernel_rfl) ?_
              refine RunsI.ret (.bool false) (by kernel_rfl) (by kernel_rfl) ?_
              obtain rfl := Option.some.inj h
              exact ⟨rfl, h69.below⟩
          · skip
            refine RegI.fix 42 false hc74 (by kernel_rfl) (by kernel_rfl) ?_
            refine RegI.pure 12 [0] [(0, .bool false)] (by kernel_rfl) ?_
            refine RegI.done (by kernel_rfl) ?_
            refine RunsI.ret (.bool false) (by kernel_rfl) (by kernel_rfl) ?_
            obtain rfl := Option.some.inj h
            exact ⟨rfl, h69.below⟩
        · skip
          refine RegI.fix 39 false hc73 (by kernel_rfl) (by kernel_rfl) ?_
          refine RegI.pure 15 [0] [(0, .bool false)] (by kernel_rfl) ?_
          refine RegI.done (by kernel_rfl) ?_
          refine RunsI.ret (.bool false) (by kernel_rfl) (by kernel_rfl) ?_
          obtain rfl := Option.some.inj h
          exact ⟨rfl, h69.below⟩
      · skip
        refine RegI.fix 34 false hc72 (by kernel_rfl) (by kernel_rfl) ?_
        refine RegI.pure 20 [0] [(0, .bool false)] (by kernel_rfl) ?_
        refine RegI.done (by kernel_rfl) ?_
        refine RunsI.ret (.bool false) (by kernel_rfl) (by kernel_rfl) ?_
        obtain rfl := Option.some.inj h
        exact ⟨rfl, h69.below⟩
    · skip
      refine RegI.fix 27 false hc43 (by kernel_rfl) (by kernel_rfl) ?_
      refine RegI.pure 27 [0] [(0, .bool false)] (by kernel_rfl) ?_
      refine RegI.done (by kernel_rfl) ?_
      refine RunsI.ret (.bool false) (by kernel_rfl) (by kernel_rfl) ?_
      obtain rfl := Option.some.inj h
      exact ⟨rfl, h40.below⟩
  · skip
    refine RegI.fix 23 false hc42 (by kernel_rfl) (by kernel_rfl) ?_
    refine RegI.pure 31 [0] [(0, .bool false)] (by kernel_rfl) ?_
    refine RegI.done (by kernel_rfl) ?_
    refine RunsI.ret (.bool false) (by kernel_rfl) (by kernel_rfl) ?_
    obtain rfl := Option.some.inj h
    exact ⟨rfl, h40.below⟩
end

/-! ### charabanc/charabancref17.Sample (function 17) -/
section
def charabancref17_Sample_17.post (M0 : Nat → Prop) (w0 : World) (r : Int) : Ending → World → Prop := fun e w => e = .returned (.int .i64 r) ∧ Below w0.heap.size w0 w
def charabancref17_Sample_17.f (K : Nat) (p0 : Int) : Option Int := Let (fun (t3 : Bool) => cond t3 (some 2) (Let (fun (t11 : Bool) => cond t11 (some 3) (cond (p0 == 6) (some 4) (some 0))) (fun j14 => cond (p0 == 4) (j14 true) (j14 (p0 == 5))))) (fun j6 => cond (p0 == 1) (j6 true) (cond (p0 == 2) (j6 true) (j6 (p0 == 3))))
set_option maxRecDepth 100000 in
theorem charabancref17_Sample_17_ok (K : Nat) (M0 : Nat → Prop) (w0 : World) (p0 : Int) (ho : ∀ b, M0 b → b < w0.heap.size) {r : Int} (h : charabancref17_Sample_17.f K p0 = some r) :
    Calls Tryd.prog 17 #[.int .i64 p0] w0 (charabancref17_Sample_17.post M0 w0 r) := by
  unfold charabancref17_Sample_17.f at h
  have h0 : Holds M0 w0 w0 [] := Holds.start ho
  have h0 : Holds M0 w0 w0 [] := h0
  refine calls_of F17 rfl [.int .i64 p0] (by kernel_rfl) ?_
  refine RunsI.go 1 [.c 1, .c 2] (by kernel_rfl) ?_
  refine RunsI.region (by kernel_rfl) ?_
  refine RegI.pure 1 [0] [(0, .int .i64 p0)] (by kernel_rfl) ?_
  refine RegI.done (by kernel_rfl) ?_
  refine RunsI.go 2 [.c 4, .c 5, .c 37] (by kernel_rfl) ?_
  refine RunsI.region (by kernel_rfl) ?_
  refine RegI.pure 1 [3] [(3, .int .i64 p0)] (by kernel_rfl) ?_
  refine RegI.done (by kernel_rfl) ?_
  refine RunsI.go 3 [.c 8, .c 9, .c 16, .blk 0, .c 37] (by kernel_rfl) ?_
  refine RunsI.region (by kernel_rfl) ?_
  refine RegI.pure 2 [3, 4] [(3, .int .i64 p0), (4, .bool (p0 == 1))] (by kernel_rfl) ?_
  refine RegI.done (by kernel_rfl) ?_
  obtain ⟨j6, hJ7, h⟩ := of_let h
  have hj8 : ∀ (t3 : Bool) (w5 : World), j6 t3 = some r → Holds M0 w0 w5 [] → RunsI F17 [.c 16, .blk 0, .c 37] [(3, .int .i64 p0), (4, .bool t3)] w5 (charabancref17_Sample_17.post M0 w0 r) := by
    intro t3 w5 h h4
    rw [hJ7] at h
    clear hJ7
    dsimp only at h
    rcases of_cond h with ⟨hc9, h⟩ | ⟨hc9, h⟩
    · skip
      refine RunsI.fix 4 true hc9 (by kernel_rfl) (by kernel_rfl) ?_
      refine RunsI.cond true 17 (by kernel_rfl) ?_
      refine RunsI.go 1 [.c 18, .c 19, .blk 0, .c 37] (by kernel_rfl) ?_
      refine RunsI.region (by kernel_rfl) ?_
      refine RegI.pure 1 [2] [(2, .int .i64 2)] (by kernel_rfl) ?_
      refine RegI.done (by kernel_rfl) ?_
      refine RunsI.ret (.int .i64 2) (by kernel_rfl) (by kernel_rfl) ?_
      obtain rfl := Option.some.inj h
      exact ⟨rfl, h4.below⟩
    · skip
      refine RunsI.fix 4 false hc9 (by kernel_rfl) (by kernel_rfl) ?_
      refine RunsI.cond false 20 (by kernel_rfl) ?_
      refine RunsI.go 2 [.c 22, .c 23, .c 26, .blk 0, .c 37] (by kernel_rfl) ?_
      refine RunsI.region (by kernel_rfl) ?_
      refine RegI.pure 2 [3, 8] [(3, .int .i64 p0), (8, .bool (p0 == 4))] (by kernel_rfl) ?_
      refine RegI.done (by kernel_rfl) ?_
      obtain ⟨j14, hJ15, h⟩ := of_let h
      have hj16 : ∀ (t11 : Bool) (w13 : World), j14 t11 = some r → Holds M0 w0 w13 [] → RunsI F17 [.c 26, .blk 0, .c 37] [(3, .int .i64 p0), (8, .bool t11)] w13 (charabancref17_Sample_17.post M0 w0 r) := by
        intro t11 w13 h h12
        rw [hJ15] at h
        clear hJ15
        dsimp only at h
        rcases of_cond h with ⟨hc17, h⟩ | ⟨hc17, h⟩
        · skip
          refine RunsI.fix 8 true hc17 (by kernel_rfl) (by kernel_rfl) ?_
          refine RunsI.cond true 27 (by kernel_rfl) ?_
          refine RunsI.go 1 [.c 28, .c 29, .blk 0, .c 37] (by kernel_rfl) ?_
          refine RunsI.region (by kernel_rfl) ?_
          refine RegI.pure 1 [2] [(2, .int .i64 3)] (by kernel_rfl) ?_
          refine RegI.done (by kernel_rfl) ?_
          refine RunsI.ret (.int .i64 3) (by kernel_rfl) (by kernel_rfl) ?_
          obtain rfl := Option.some.inj h
          exact ⟨rfl, h12.below⟩
        · skip
          refine RunsI.fix 8 false hc17 (by kernel_rfl) (by kernel_rfl) ?_
          refine RunsI.cond false 30 (by kernel_rfl) ?_
          refine RunsI.go 1 [.c 31, .c 32, .blk 0, .c 37] (by kernel_rfl) ?_
          refine RunsI.region (by kernel_rfl) ?_
          refine RegI.pure 2 [11] [(11, .bool (p0 == 6))] (by kernel_rfl) ?_
          refine RegI.done (by kernel_rfl) ?_
          rcases of_cond h with ⟨hc18, h⟩ | ⟨hc18, h⟩
          · skip
            refine RunsI.fix 11 true hc18 (by kernel_rfl) (by kernel_rfl) ?_
            refine RunsI.cond true 33 (by kernel_rfl) ?_
            refine RunsI.go 1 [.c 34, .c 35, .blk 0, .c 37] (by kernel_rfl) ?_
            refine RunsI.region (by kernel_rfl) ?_
            refine RegI.pure 1 [2] [(2, .int .i64 4)] (by kernel_rfl) ?_
            refine RegI.done (by kernel_rfl) ?_
            refine RunsI.ret (.int .i64 4) (by kernel_rfl) (by kernel_rfl) ?_
            obtain rfl := Option.some.inj h
            exact ⟨rfl, h12.below⟩
          · skip
            refine RunsI.fix 11 false hc18 (by kernel_rfl) (by kernel_rfl) ?_
            refine RunsI.cond false 36 (by kernel_rfl) ?_
            refine RunsI.go 1 [.blk 0, .c 37] (by kernel_rfl) ?_
            refine RunsI.go 2 [.c 38, .c 39] (by kernel_rfl) ?_
            refine RunsI.region (by kernel_rfl) ?_
            refine RegI.pure 1 [2] [(2, .int .i64 0)] (by kernel_rfl) ?_
            refine RegI.done (by kernel_rfl) ?_
            refine RunsI.ret (.int .i64 0) (by kernel_rfl) (by kernel_rfl) ?_
            obtain rfl := Option.some.inj h
            exact ⟨rfl, h12.below⟩
      clear hJ15
      rcases of_cond h with ⟨hc10, h⟩ | ⟨hc10, h⟩
      · skip
        refine RunsI.fix 8 true hc10 (by kernel_rfl) (by kernel_rfl) ?_
        refine RunsI.cond true 24 (by kernel_rfl) ?_
        refine RunsI.go 1 [.c 26, .blk 0, .c 37] (by kernel_rfl) ?_
        refine RunsI.only [3, 8] [(3, .int .i64 p0), (8, .bool true)] (by kernel_rfl) (by kernel_rfl) ?_
        exact hj16 true w5 h (h4.pick [] (by decide))
      · skip
        refine RunsI.fix 8 false hc10 (by kernel_rfl) (by kernel_rfl) ?_
        refine RunsI.cond false 25 (by kernel_rfl) ?_
        refine RunsI.region (by kernel_rfl) ?_
        refine RegI.pure 2 [3, 8] [(3, .int .i64 p0), (8, .bool (p0 == 5))] (by kernel_rfl) ?_
        refine RegI.done (by kernel_rfl) ?_
        refine RunsI.only [3, 8] [(3, .int .i64 p0), (8, .bool (p0 == 5))] (by kernel_rfl) (by kernel_rfl) ?_
        exact hj16 (p0 == 5) w5 h (h4.pick [] (by decide))
  clear hJ7
  rcases of_cond h with ⟨hc1, h⟩ | ⟨hc1, h⟩
  · skip
    refine RunsI.fix 4 true hc1 (by kernel_rfl) (by kernel_rfl) ?_
    refine RunsI.cond true 10 (by kernel_rfl) ?_
    refine RunsI.go 1 [.c 16, .blk 0, .c 37] (by kernel_rfl) ?_
    refine RunsI.only [3, 4] [(3, .int .i64 p0), (4, .bool true)] (by kernel_rfl) (by kernel_rfl) ?_
    exact hj8 true w0 h (h0.pick [] (by decide))
  · skip
    refine RunsI.fix 4 false hc1 (by kernel_rfl) (by kernel_rfl) ?_
    refine RunsI.cond false 11 (by kernel_rfl) ?_
    refine RunsI.go 1 [.c 12, .c 13, .c 16, .blk 0, .c 37] (by kernel_rfl) ?_
    refine RunsI.region (by kernel_rfl) ?_
    refine RegI.pure 2 [3, 4] [(3, .int .i64 p0), (4, .bool (p0 == 2))] (by kernel_rfl) ?_
    refine RegI.done (by kernel_rfl) ?_
    rcases of_cond h with ⟨hc2, h⟩ | ⟨hc2, h⟩
    · skip
      refine RunsI.fix 4 true hc2 (by kernel_rfl) (by kernel_rfl) ?_
      refine RunsI.cond true 14 (by kernel_rfl) ?_
      refine RunsI.go 1 [.c 16, .blk 0, .c 37] (by kernel_rfl) ?_
      refine RunsI.only [3, 4] [(3, .int .i64 p0), (4, .bool true)] (by kernel_rfl) (by kernel_rfl) ?_
      exact hj8 true w0 h (h0.pick [] (by decide))
    · skip
      refine RunsI.fix 4 false hc2 (by kernel_rfl) (by kernel_rfl) ?_
      refine RunsI.cond false 15 (by kernel_rfl) ?_
      refine RunsI.region (by kernel_rfl) ?_
      refine RegI.pure 2 [3, 4] [(3, .int .i64 p0), (4, .bool (p0 == 3))] (by kernel_rfl) ?_
      refine RegI.done (by kernel_rfl) ?_
      refine RunsI.only [3, 4] [(3, .int .i64 p0), (4, .bool (p0 == 3))] (by kernel_rfl) (by kernel_rfl) ?_
      exact hj8 (p0 == 3) w0 h (h0.pick [] (by decide))
end

/-! ### charabanc/charabancref17.Check (function 15) -/
section
def charabancref17_Check_15.post (M0 : Nat → Prop) (w0 : World) (r : Int) : Ending → World → Prop := fun e w => e = .returned (.int .i64 r) ∧ Below w0.heap.size w0 w
def charabancref17_Check_15.f (K : Nat) (p0_0 : Int) (p0_1 : Int) (p0_2 : Int) (p0_3 : Int) : Option Int := Let (fun (t27 : Bool) => cond t27 (some 1) (some 0)) (fun j30 => cond (decide (p0_0 < 1)) (j30 true) (cond (decide (p0_0 > 7)) (j30 true) ((charabancref17_Sample_17.f K p0_0).bind fun t19 => cond (decide (p0_3 ≤ t19)) (j30 true) (j30 (decide (p0_3 > 32))))))
set_option maxRecDepth 100000 in
theorem charabancref17_Check_15_ok (K : Nat) (M0 : Nat → Prop) (w0 : World) (p0_0 : Int) (p0_1 : Int) (p0_2 : Int) (p0_3 : Int) (ho : ∀ b, M0 b → b < w0.heap.size) {r : Int} (h : charabancref17_Check_15.f K p0_0 p0_1 p0_2 p0_3 = some r) :
    Calls Tryd.prog 15 #[.agg #[.int .i64 p0_0, .int .u16 p0_1, .int .u8 p0_2, .int .i64 p0_3]] w0 (charabancref17_Check_15.post M0 w0 r) := by
  unfold charabancref17_Check_15.f at h
  have h0 : Holds M0 w0 w0 [] := Holds.start ho
  have h0 : Holds M0 w0 w0 [] := h0
  refine calls_of F15 rfl [.agg #[.int .i64 p0_0, .int .u16 p0_1, .int .u8 p0_2, .int .i64 p0_3]] (by kernel_rfl) ?_
  refine RunsI.go 1 [.c 1, .c 2] (by kernel_rfl) ?_
  refine RunsI.region (by kernel_rfl) ?_
  refine RegI.op (by kernel_rfl) (OpE.box 1 24 [.int .i64 p0_0, .int .u16 p0_1, .int .u8 p0_2, .int .i64 p0_3] h0 (by kernel_rfl) (by kernel_rfl) ?_)
  intro w1 b2 h3 hb4 hn5
  refine RegI.pure 1 [1] [(1, .pointer (some ⟨b2, 0, none⟩))] (by kernel_rfl) ?_
  refine RegI.done (by kernel_rfl) ?_
  refine RunsI.go 2 [.c 4, .c 5, .c 10] (by kernel_rfl) ?_
  refine RunsI.any 21 (by kernel_rfl) (by kernel_rfl) (by kernel_rfl) (Kp ([] : List Nat) (World.drew w1)) ?_
  have h7 := h3.drew
  generalize World.drew w1 = w6 at h7 ⊢
  have hS8 := Kp.refl ([] : List Nat) w6
  refine AnyE.pure 0 3 (.pointer (some ⟨b2, 0, none⟩)) (by kernel_rfl) hS8 (fun _ => by kernel_rfl) ?_
  refine AnyE.loadBox 1 4 0 3 b2 0 (.int .i64 p0_0) [] h7 rfl (by kernel_rfl) hS8 rfl rfl (by kernel_rfl) (by kernel_rfl) ?_
  refine AnyE.pure 2 5 (.bool (decide (p0_0 < 1))) (by kernel_rfl) hS8 (fun _ => by kernel_rfl) ?_
  refine AnyE.pure 3 6 (.bool (decide (p0_0 < 1))) (by kernel_rfl) hS8 (fun _ => by kernel_rfl) ?_
  obtain ⟨j30, hJ31, h⟩ := of_let h
  have hj32 : ∀ (t27 : Bool) (w29 : World), j30 t27 = some r → Holds M0 w0 w29 [] → RunsI F15 [.c 5, .c 10] [(23, .bool t27)] w29 (charabancref17_Check_15.post M0 w0 r) := by
    intro t27 w29 h h28
    rw [hJ31] at h
    clear hJ31
    dsimp only at h
    rcases of_cond h with ⟨hc33, h⟩ | ⟨hc33, h⟩
    · skip
      refine RunsI.fix 23 true hc33 (by kernel_rfl) (by kernel_rfl) ?_
      refine RunsI.cond true 6 (by kernel_rfl) ?_
      refine RunsI.go 1 [.c 7, .c 8, .c 10] (by kernel_rfl) ?_
      refine RunsI.region (by kernel_rfl) ?_
      refine RegI.pure 1 [2] [(2, .int .i64 1)] (by kernel_rfl) ?_
      refine RegI.done (by kernel_rfl) ?_
      refine RunsI.ret (.int .i64 1) (by kernel_rfl) (by kernel_rfl) ?_
      obtain rfl := Option.some.inj h
      exact ⟨rfl, h28.below⟩
    · skip
      refine RunsI.fix 23 false hc33 (by kernel_rfl) (by kernel_rfl) ?_
      refine RunsI.cond false 9 (by kernel_rfl) ?_
      refine RunsI.go 1 [.c 10] (by kernel_rfl) ?_
      refine RunsI.go 1 [.c 11, .c 12] (by kernel_rfl) ?_
      refine RunsI.region (by kernel_rfl) ?_
      refine RegI.pure 1 [2] [(2, .int .i64 0)] (by kernel_rfl) ?_
      refine RegI.done (by kernel_rfl) ?_
      refine RunsI.ret (.int .i64 0) (by kernel_rfl) (by kernel_rfl) ?_
      obtain rfl := Option.some.inj h
      exact ⟨rfl, h28.below⟩
  clear hJ31
  rcases of_cond h with ⟨hc10, h⟩ | ⟨hc10, h⟩
  · skip
    refine AnyE.fix 6 true hc10 (by kernel_rfl) (by kernel_rfl) ?_
    refine AnyE.no 4 7 (by kernel_rfl) hS8 ?_
    refine AnyE.no 5 8 (by kernel_rfl) hS8 ?_
    refine AnyE.no 6 9 (by kernel_rfl) hS8 ?_
    refine AnyE.pure 7 10 (.bool true) (by kernel_rfl) hS8 (fun _ => by kernel_rfl) ?_
    refine AnyE.pure 8 11 (.bool true) (by kernel_rfl) hS8 (fun _ => by kernel_rfl) ?_
    refine AnyE.no 9 12 (by kernel_rfl) hS8 ?_
    refine AnyE.no 10 13 (by kernel_rfl) hS8 ?_
    refine AnyE.no 11 14 (by kernel_rfl) hS8 ?_
    refine AnyE.no 12 15 (by kernel_rfl) hS8 ?_
    refine AnyE.no 13 16 (by kernel_rfl) hS8 ?_
    refine AnyE.no 14 17 (by kernel_rfl) hS8 ?_
    refine AnyE.pure 15 18 (.bool true) (by kernel_rfl) hS8 (fun _ => by kernel_rfl) ?_
    refine AnyE.pure 16 19 (.bool true) (by kernel_rfl) hS8 (fun _ => by kernel_rfl) ?_
    refine AnyE.no 17 20 (by kernel_rfl) hS8 ?_
    refine AnyE.no 18 21 (by kernel_rfl) hS8 ?_
    refine AnyE.no 19 22 (by kernel_rfl) hS8 ?_
    refine AnyE.pure 20 23 (.bool true) (by kernel_rfl) hS8 (fun _ => by kernel_rfl) ?_
    refine AnyE.done (by kernel_rfl) (fun w11 hu12 => ?_)
    have h13 := h7.call hu12
    refine RunsI.only [23] [(23, .bool true)] (by kernel_rfl) (by kernel_rfl) ?_
    refine RunsI.only [23] [(23, .bool true)] (by kernel_rfl) (by kernel_rfl) ?_
    exact hj32 true w11 h (h13.pick [] (by decide))
  · skip
    refine AnyE.fix 6 false hc10 (by kernel_rfl) (by kernel_rfl) ?_
    refine AnyE.pure 4 7 (.pointer (some ⟨b2, 0, none⟩)) (by kernel_rfl) hS8 (fun _ => by kernel_rfl) ?_
    refine AnyE.loadBox 5 8 0 3 b2 0 (.int .i64 p0_0) [] h7 rfl (by kernel_rfl) hS8 rfl rfl (by kernel_rfl) (by kernel_rfl) ?_
    refine AnyE.pure 6 9 (.bool (decide (p0_0 > 7))) (by kernel_rfl) hS8 (fun _ => by kernel_rfl) ?_
    refine AnyE.pure 7 10 (.bool (decide (p0_0 > 7))) (by kernel_rfl) hS8 (fun _ => by kernel_rfl) ?_
    refine AnyE.pure 8 11 (.bool (decide (p0_0 > 7))) (by kernel_rfl) hS8 (fun _ => by kernel_rfl) ?_
    rcases of_cond h with ⟨hc14, h⟩ | ⟨hc14, h⟩
    · skip
      refine AnyE.fix 11 true hc14 (by kernel_rfl) (by kernel_rfl) ?_
      refine AnyE.no 9 12 (by kernel_rfl) hS8 ?_
      refine AnyE.no 10 13 (by kernel_rfl) hS8 ?_
      refine AnyE.no 11 14 (by kernel_rfl) hS8 ?_
      refine AnyE.no 12 15 (by kernel_rfl) hS8 ?_
      refine AnyE.no 13 16 (by kernel_rfl) hS8 ?_
      refine AnyE.no 14 17 (by kernel_rfl) hS8 ?_
      refine AnyE.pure 15 18 (.bool true) (by kernel_rfl) hS8 (fun _ => by kernel_rfl) ?_
      refine AnyE.pure 16 19 (.bool true) (by kernel_rfl) hS8 (fun _ => by kernel_rfl) ?_
      refine AnyE.no 17 20 (by kernel_rfl) hS8 ?_
      refine AnyE.no 18 21 (by kernel_rfl) hS8 ?_
      refine AnyE.no 19 22 (by kernel_rfl) hS8 ?_
      refine AnyE.pure 20 23 (.bool true) (by kernel_rfl) hS8 (fun _ => by kernel_rfl) ?_
      refine AnyE.done (by kernel_rfl) (fun w15 hu16 => ?_)
      have h17 := h7.call hu16
      refine RunsI.only [23] [(23, .bool true)] (by kernel_rfl) (by kernel_rfl) ?_
      refine RunsI.only [23] [(23, .bool true)] (by kernel_rfl) (by kernel_rfl) ?_
      exact hj32 true w15 h (h17.pick [] (by decide))
    · skip
      refine AnyE.fix 11 false hc14 (by kernel_rfl) (by kernel_rfl) ?_
      refine AnyE.pure 9 12 (.pointer (some ⟨b2, 3, none⟩)) (by kernel_rfl) hS8 (fun _ => by kernel_rfl) ?_
      refine AnyE.loadBox 10 13 0 3 b2 3 (.int .i64 p0_3) [] h7 rfl (by kernel_rfl) hS8 rfl rfl (by kernel_rfl) (by kernel_rfl) ?_
      refine AnyE.pure 11 14 (.pointer (some ⟨b2, 0, none⟩)) (by kernel_rfl) hS8 (fun _ => by kernel_rfl) ?_
      refine AnyE.loadBox 12 15 0 3 b2 0 (.int .i64 p0_0) [] h7 rfl (by kernel_rfl) hS8 rfl rfl (by kernel_rfl) (by kernel_rfl) ?_
      obtain ⟨t19, hg18, h⟩ := of_bind h
      refine AnyE.call 13 16 (.int .i64 t19) 17 #[.int .i64 p0_0] (by kernel_rfl) hS8 (fun _ => by kernel_rfl) (fun w hk => charabancref17_Sample_17_ok K (fun _ => False) w p0_0 (fun _ hf => hf.elim) hg18) ?_
      refine AnyE.pure 14 17 (.bool (decide (p0_3 ≤ t19))) (by kernel_rfl) hS8 (fun _ => by kernel_rfl) ?_
      refine AnyE.pure 15 18 (.bool (decide (p0_3 ≤ t19))) (by kernel_rfl) hS8 (fun _ => by kernel_rfl) ?_
      refine AnyE.pure 16 19 (.bool (decide (p0_3 ≤ t19))) (by kernel_rfl) hS8 (fun _ => by kernel_rfl) ?_
      rcases of_cond h with ⟨hc20, h⟩ | ⟨hc20, h⟩
      · skip
        refine AnyE.fix 19 true hc20 (by kernel_rfl) (by kernel_rfl) ?_
        refine AnyE.no 17 20 (by kernel_rfl) hS8 ?_
        refine AnyE.no 18 21 (by kernel_rfl) hS8 ?_
        refine AnyE.no 19 22 (by kernel_rfl) hS8 ?_
        refine AnyE.pure 20 23 (.bool true) (by kernel_rfl) hS8 (fun _ => by kernel_rfl) ?_
        refine AnyE.done (by kernel_rfl) (fun w21 hu22 => ?_)
        have h23 := h7.call hu22
        refine RunsI.only [23] [(23, .bool true)] (by kernel_rfl) (by kernel_rfl) ?_
        refine RunsI.only [23] [(23, .bool true)] (by kernel_rfl) (by kernel_rfl) ?_
        exact hj32 true w21 h (h23.pick [] (by decide))
      · skip
        refine AnyE.fix 19 false hc20 (by kernel_rfl) (by kernel_rfl) ?_
        refine AnyE.pure 17 20 (.pointer (some ⟨b2, 3, none⟩)) (by kernel_rfl) hS8 (fun _ => by kernel_rfl) ?_
        refine AnyE.loadBox 18 21 0 3 b2 3 (.int .i64 p0_3) [] h7 rfl (by kernel_rfl) hS8 rfl rfl (by kernel_rfl) (by kernel_rfl) ?_
        refine AnyE.pure 19 22 (.bool (decide (p0_3 > 32))) (by kernel_rfl) hS8 (fun _ => by kernel_rfl) ?_
        refine AnyE.pure 20 23 (.bool (decide (p0_3 > 32))) (by kernel_rfl) hS8 (fun _ => by kernel_rfl) ?_
        refine AnyE.done (by kernel_rfl) (fun w24 hu25 => ?_)
        have h26 := h7.call hu25
        refine RunsI.only [23] [(23, .bool (decide (p0_3 > 32)))] (by kernel_rfl) (by kernel_rfl) ?_
        refine RunsI.only [23] [(23, .bool (decide (p0_3 > 32)))] (by kernel_rfl) (by kernel_rfl) ?_
        exact hj32 (decide (p0_3 > 32)) w24 h (h26.pick [] (by decide))
end

/-! ### charabanc/charabancref17.Tick (function 12) -/
section
def charabancref17_Tick_12.post (M0 : Nat → Prop) (w0 : World) (r : Int × Int × Int × Int × Int × Int × Bool × Bool) : Ending → World → Prop := fun e w => e = .returned (.tuple #[.agg #[.int .i64 r.1, .int .u16 r.2.1, .int .u8 r.2.2.1, .int .i64 r.2.2.2.1, .int .i64 r.2.2.2.2.1, .int .i64 r.2.2.2.2.2.1], .bool r.2.2.2.2.2.2.1, .bool r.2.2.2.2.2.2.2]) ∧ Below w0.heap.size w0 w
def charabancref17_Tick_12.f (K : Nat) (p0_0_0 : Int) (p0_0_1 : Int) (p0_0_2 : Int) (p0_0_3 : Int) (p0_1 : Int) (p0_2 : Int) (p1 : Bool) : Option (Int × Int × Int × Int × Int × Int × Bool × Bool) := (charabancref17_Check_15.f K p0_0_0 p0_0_1 p0_0_2 p0_0_3).bind fun t15 => Let (fun (t18 : Bool) => cond t18 (some (p0_0_0, p0_0_1, p0_0_2, p0_0_3, p0_1, p0_2, false, false)) ((charabancref17_Sample_17.f K p0_0_0).bind fun t32 => Let (fun (t35 : Bool) => cond t35 (some (p0_0_0, p0_0_1, p0_0_2, p0_0_3, p0_1, (IntKind.wrap .i64 (p0_2 + 1)), false, false)) (cond (decide (t32 > 0)) (some (p0_0_0, p0_0_1, p0_0_2, p0_0_3, (IntKind.wrap .i64 (p0_1 + 1)), p0_2, ((IntKind.wrap .i64 (p0_1 + 1)) == (IntKind.wrap .i64 (t32 + 1))), ((IntKind.wrap .i64 (p0_1 + 1)) == p0_0_3))) (some (p0_0_0, p0_0_1, p0_0_2, p0_0_3, (IntKind.wrap .i64 (p0_1 + 1)), p0_2, false, ((IntKind.wrap .i64 (p0_1 + 1)) == p0_0_3))))) (fun j38 => cond (decide (t32 > 0)) (cond (p0_1 == (IntKind.wrap .i64 (t32 - 1))) (j38 p1) (j38 false)) (j38 false)))) (fun j21 => cond (t15 != 0) (j21 true) (cond (decide (p0_1 < 0)) (j21 true) (j21 (decide (p0_1 ≥ p0_0_3)))))
set_option maxRecDepth 100000 in
theorem charabancref17_Tick_12_ok (K : Nat) (M0 : Nat → Prop) (w0 : World) (p0_0_0 : Int) (p0_0_1 : Int) (p0_0_2 : Int) (p0_0_3 : Int) (p0_1 : Int) (p0_2 : Int) (p1 : Bool) (ho : ∀ b, M0 b → b < w0.heap.size) {r : Int × Int × Int × Int × Int × Int × Bool × Bool} (h : charabancref17_Tick_12.f K p0_0_0 p0_0_1 p0_0_2 p0_0_3 p0_1 p0_2 p1 = some r) :
    Calls Tryd.prog 12 #[.agg #[.int .i64 p0_0_0, .int .u16 p0_0_1, .int .u8 p0_0_2, .int .i64 p0_0_3, .int .i64 p0_1, .int .i64 p0_2], .bool p1] w0 (charabancref17_Tick_12.post M0 w0 r) := by
  unfold charabancref17_Tick_12.f at h
  have h0 : Holds M0 w0 w0 [] := Holds.start ho
  have h0 : Holds M0 w0 w0 [] := h0
  refine calls_of F12 rfl [.agg #[.int .i64 p0_0_0, .int .u16 p0_0_1, .int .u8 p0_0_2, .int .i64 p0_0_3, .int .i64 p0_1, .int .i64 p0_2], .bool p1] (by kernel_rfl) ?_
  refine RunsI.go 1 [.c 1, .c 2] (by kernel_rfl) ?_
  refine RunsI.region (by kernel_rfl) ?_
  refine RegI.op (by kernel_rfl) (OpE.box 2 30 [.int .i64 p0_0_0, .int .u16 p0_0_1, .int .u8 p0_0_2, .int .i64 p0_0_3, .int .i64 p0_1, .int .i64 p0_2] h0 (by kernel_rfl) (by kernel_rfl) ?_)
  intro w1 b2 h3 hb4 hn5
  refine RegI.op (by kernel_rfl) (OpE.box 4 30 [.int .i64 0, .int .u16 0, .int .u8 0, .int .i64 0, .int .i64 0, .int .i64 0] h3 (by kernel_rfl) (by kernel_rfl) ?_)
  intro w6 b7 h8 hb9 hn10
  refine RegI.pure 2 [1, 2, 4] [(1, .bool p1), (2, .pointer (some ⟨b2, 0, none⟩)), (4, .pointer (some ⟨b7, 0, none⟩))] (by kernel_rfl) ?_
  refine RegI.done (by kernel_rfl) ?_
  refine RunsI.go 2 [.c 4, .c 5, .c 10] (by kernel_rfl) ?_
  refine RunsI.region (by kernel_rfl) ?_
  refine RegI.pure 1 [1, 2, 4, 8] [(1, .bool p1), (2, .pointer (some ⟨b2, 0, none⟩)), (4, .pointer (some ⟨b7, 0, none⟩)), (8, .pointer (some ⟨b2, 0, none⟩))] (by kernel_rfl) ?_
  refine RegI.op (by kernel_rfl) (OpE.loadBox 9 0 24 b2 0 (.agg #[.int .i64 p0_0_0, .int .u16 p0_0_1, .int .u8 p0_0_2, .int .i64 p0_0_3]) h8 (by kernel_rfl) (by kernel_rfl) rfl (by kernel_rfl) ?_)
  obtain ⟨t15, hg14, h⟩ := of_bind h
  refine RegI.op (by kernel_rfl) (OpE.call 10 (by kernel_rfl) 15 #[.agg #[.int .i64 p0_0_0, .int .u16 p0_0_1, .int .u8 p0_0_2, .int .i64 p0_0_3]] (by kernel_rfl) ((charabancref17_Check_15_ok K _ w6  p0_0_0 p0_0_1 p0_0_2 p0_0_3 h8.old' hg14).mono ?_))
  rintro _ w11 ⟨rfl, hb12⟩
  refine ⟨_, rfl, ?_⟩
  have h13 := h8.call hb12
  refine RegI.pure 2 [1, 2, 4, 12] [(1, .bool p1), (2, .pointer (some ⟨b2, 0, none⟩)), (4, .pointer (some ⟨b7, 0, none⟩)), (12, .bool (t15 != 0))] (by kernel_rfl) ?_
  obtain ⟨j21, hJ22, h⟩ := of_let h
  have hj23 : ∀ (t18 : Bool) (w20 : World), j21 t18 = some r → Holds M0 w0 w20 [box b2 30 [.int .i64 p0_0_0, .int .u16 p0_0_1, .int .u8 p0_0_2, .int .i64 p0_0_3, .int .i64 p0_1, .int .i64 p0_2], box b7 30 [.int .i64 0, .int .u16 0, .int .u8 0, .int .i64 0, .int .i64 0, .int .i64 0]] → RegI F12 4 [.c 5, .c 10] 17 [(1, .bool p1), (2, .pointer (some ⟨b2, 0, none⟩)), (4, .pointer (some ⟨b7, 0, none⟩)), (24, .bool t18)] w20 (charabancref17_Tick_12.post M0 w0 r) := by
    intro t18 w20 h h19
    rw [hJ22] at h
    clear hJ22
    dsimp only at h
    refine RegI.done (by kernel_rfl) ?_
    rcases of_cond h with ⟨hc24, h⟩ | ⟨hc24, h⟩
    · skip
      refine RunsI.fix 24 true hc24 (by kernel_rfl) (by kernel_rfl) ?_
      refine RunsI.cond true 6 (by kernel_rfl) ?_
      refine RunsI.go 1 [.c 7, .c 8, .c 10] (by kernel_rfl) ?_
      refine RunsI.region (by kernel_rfl) ?_
      refine RegI.op (by kernel_rfl) (OpE.loadBox 25 0 30 b2 0 (.agg #[.int .i64 p0_0_0, .int .u16 p0_0_1, .int .u8 p0_0_2, .int .i64 p0_0_3, .int .i64 p0_1, .int .i64 p0_2]) h19 (by kernel_rfl) (by kernel_rfl) rfl (by kernel_rfl) ?_)
      refine RegI.op (by kernel_rfl) (OpE.storeBox 1 30 b7 0 (.agg #[.int .i64 p0_0_0, .int .u16 p0_0_1, .int .u8 p0_0_2, .int .i64 p0_0_3, .int .i64 p0_1, .int .i64 p0_2]) [.int .i64 p0_0_0, .int .u16 p0_0_1, .int .u8 p0_0_2, .int .i64 p0_0_3, .int .i64 p0_1, .int .i64 p0_2] h19 (by kernel_rfl) (by kernel_rfl) rfl (by kernel_rfl) (by kernel_rfl) (by kernel_rfl) ?_)
      intro w25 h26 hk27
      refine RegI.pure 2 [4, 5, 6] [(4, .pointer (some ⟨b7, 0, none⟩)), (5, .bool false), (6, .bool false)] (by kernel_rfl) ?_
      refine RegI.done (by kernel_rfl) ?_
      refine RunsI.toRet (by kernel_rfl) ?_
      refine RetI.valW [.cell 4 30, .tmp 5, .tmp 6] [.agg #[.int .i64 p0_0_0, .int .u16 p0_0_1, .int .u8 p0_0_2, .int .i64 p0_0_3, .int .i64 p0_1, .int .i64 p0_2], .bool false, .bool false] (.tuple #[.agg #[.int .i64 p0_0_0, .int .u16 p0_0_1, .int .u8 p0_0_2, .int .i64 p0_0_3, .int .i64 p0_1, .int .i64 p0_2], .bool false, .bool false]) (by kernel_rfl) (ResAt.box 1 30 b7 0 h26 (by kernel_rfl) (by kernel_rfl) rfl (by kernel_rfl) (ResAt.tmp (by kernel_rfl) (by kernel_rfl) (ResAt.tmp (by kernel_rfl) (by kernel_rfl) rfl))) (by kernel_rfl) ?_
      obtain rfl := Option.some.inj h
      exact ⟨rfl, h26.below⟩
    · skip
      refine RunsI.fix 24 false hc24 (by kernel_rfl) (by kernel_rfl) ?_
      refine RunsI.cond false 9 (by kernel_rfl) ?_
      refine RunsI.go 1 [.c 10] (by kernel_rfl) ?_
      refine RunsI.go 1 [.c 11, .c 12] (by kernel_rfl) ?_
      refine RunsI.region (by kernel_rfl) ?_
      refine RegI.pure 2 [1, 2, 4, 27] [(1, .bool p1), (2, .pointer (some ⟨b2, 0, none⟩)), (4, .pointer (some ⟨b7, 0, none⟩)), (27, .pointer (some ⟨b2, 0, none⟩))] (by kernel_rfl) ?_
      refine RegI.op (by kernel_rfl) (OpE.loadBox 28 0 3 b2 0 (.int .i64 p0_0_0) h19 (by kernel_rfl) (by kernel_rfl) rfl (by kernel_rfl) ?_)
      obtain ⟨t32, hg31, h⟩ := of_bind h
      refine RegI.op (by kernel_rfl) (OpE.call 29 (by kernel_rfl) 17 #[.int .i64 p0_0_0] (by kernel_rfl) ((charabancref17_Sample_17_ok K _ w20  p0_0_0 h19.old' hg31).mono ?_))
      rintro _ w28 ⟨rfl, hb29⟩
      refine ⟨_, rfl, ?_⟩
      have h30 := h19.call hb29
      refine RegI.pure 1 [1, 2, 4, 7] [(1, .bool p1), (2, .pointer (some ⟨b2, 0, none⟩)), (4, .pointer (some ⟨b7, 0, none⟩)), (7, .int .i64 t32)] (by kernel_rfl) ?_
      refine RegI.done (by kernel_rfl) ?_
      refine RunsI.go 2 [.c 14, .c 15, .c 22] (by kernel_rfl) ?_
      refine RunsI.region (by kernel_rfl) ?_
      refine RegI.pure 3 [1, 2, 4, 7, 32] [(1, .bool p1), (2, .pointer (some ⟨b2, 0, none⟩)), (4, .pointer (some ⟨b7, 0, none⟩)), (7, .int .i64 t32), (32, .bool (decide (t32 > 0)))] (by kernel_rfl) ?_
      obtain ⟨j38, hJ39, h⟩ := of_let h
      have hj40 : ∀ (t35 : Bool) (w37 : World), j38 t35 = some r → Holds M0 w0 w37 [box b2 30 [.int .i64 p0_0_0, .int .u16 p0_0_1, .int .u8 p0_0_2, .int .i64 p0_0_3, .int .i64 p0_1, .int .i64 p0_2], box b7 30 [.int .i64 0, .int .u16 0, .int .u8 0, .int .i64 0, .int .i64 0, .int .i64 0]] → RegI F12 14 [.c 15, .c 22] 12 [(2, .pointer (some ⟨b2, 0, none⟩)), (4, .pointer (some ⟨b7, 0, none⟩)), (7, .int .i64 t32), (41, .bool t35)] w37 (charabancref17_Tick_12.post M0 w0 r) := by
        intro t35 w37 h h36
        rw [hJ39] at h
        clear hJ39
        dsimp only at h
        refine RegI.done (by kernel_rfl) ?_
        rcases of_cond h with ⟨hc41, h⟩ | ⟨hc41, h⟩
        · skip
          refine RunsI.fix 41 true hc41 (by kernel_rfl) (by kernel_rfl) ?_
          refine RunsI.cond true 16 (by kernel_rfl) ?_
          refine RunsI.go 1 [.c 17, .c 18, .c 22] (by kernel_rfl) ?_
          refine RunsI.region (by kernel_rfl) ?_
          refine RegI.pure 1 [2, 4, 42] [(2, .pointer (some ⟨b2, 0, none⟩)), (4, .pointer (some ⟨b7, 0, none⟩)), (42, .pointer (some ⟨b2, 5, none⟩))] (by kernel_rfl) ?_
          refine RegI.op (by kernel_rfl) (OpE.loadBox 43 0 3 b2 5 (.int .i64 p0_2) h36 (by kernel_rfl) (by kernel_rfl) rfl (by kernel_rfl) ?_)
          refine RegI.pure 2 [2, 4, 44, 45] [(2, .pointer (some ⟨b2, 0, none⟩)), (4, .pointer (some ⟨b7, 0, none⟩)), (44, .int .i64 (IntKind.wrap .i64 (p0_2 + 1))), (45, .pointer (some ⟨b2, 5, none⟩))] (by kernel_rfl) ?_
          refine RegI.op (by kernel_rfl) (OpE.storeBox 0 3 b2 5 (.int .i64 (IntKind.wrap .i64 (p0_2 + 1))) [.int .i64 p0_0_0, .int .u16 p0_0_1, .int .u8 p0_0_2, .int .i64 p0_0_3, .int .i64 p0_1, .int .i64 (IntKind.wrap .i64 (p0_2 + 1))] h36 (by kernel_rfl) (by kernel_rfl) rfl (by kernel_rfl) (by kernel_rfl) (by kernel_rfl) ?_)
          intro w42 h43 hk44
          refine RegI.done (by kernel_rfl) ?_
          refine RunsI.go 1 [.c 19, .c 20, .c 22] (by kernel_rfl) ?_
          refine RunsI.region (by kernel_rfl) ?_
          refine RegI.op (by kernel_rfl) (OpE.loadBox 46 0 30 b2 0 (.agg #[.int .i64 p0_0_0, .int .u16 p0_0_1, .int .u8 p0_0_2, .int .i64 p0_0_3, .int .i64 p0_1, .int .i64 (IntKind.wrap .i64 (p0_2 + 1))]) h43 (by kernel_rfl) (by kernel_rfl) rfl (by kernel_rfl) ?_)
          refine RegI.op (by kernel_rfl) (OpE.storeBox 1 30 b7 0 (.agg #[.int .i64 p0_0_0, .int .u16 p0_0_1, .int .u8 p0_0_2, .int .i64 p0_0_3, .int .i64 p0_1, .int .i64 (IntKind.wrap .i64 (p0_2 + 1))]) [.int .i64 p0_0_0, .int .u16 p0_0_1, .int .u8 p0_0_2, .int .i64 p0_0_3, .int .i64 p0_1, .int .i64 (IntKind.wrap .i64 (p0_2 + 1))] h43 (by kernel_rfl) (by kernel_rfl) rfl (by kernel_rfl) (by kernel_rfl) (by kernel_rfl) ?_)
          intro w45 h46 hk47
          refine RegI.pure 2 [4, 5, 6] [(4, .pointer (some ⟨b7, 0, none⟩)), (5, .bool false), (6, .bool false)] (by kernel_rfl) ?_
          refine RegI.done (by kernel_rfl) ?_
          refine RunsI.toRet (by kernel_rfl) ?_
          refine RetI.valW [.cell 4 30, .tmp 5, .tmp 6] [.agg #[.int .i64 p0_0_0, .int .u16 p0_0_1, .int .u8 p0_0_2, .int .i64 p0_0_3, .int .i64 p0_1, .int .i64 (IntKind.wrap .i64 (p0_2 + 1))], .bool false, .bool false] (.tuple #[.agg #[.int .i64 p0_0_0, .int .u16 p0_0_1, .int .u8 p0_0_2, .int .i64 p0_0_3, .int .i64 p0_1, .int .i64 (IntKind.wrap .i64 (p0_2 + 1))], .bool false, .bool false]) (by kernel_rfl) (ResAt.box 1 30 b7 0 h46 (by kernel_rfl) (by kernel_rfl) rfl (by kernel_rfl) (ResAt.tmp (by kernel_rfl) (by kernel_rfl) (ResAt.tmp (by kernel_rfl) (by kernel_rfl) rfl))) (by kernel_rfl) ?_
          obtain rfl := Option.some.inj h
          exact ⟨rfl, h46.below⟩
        · skip
          refine RunsI.fix 41 false hc41 (by kernel_rfl) (by kernel_rfl) ?_
          refine RunsI.cond false 21 (by kernel_rfl) ?_
          refine RunsI.go 1 [.c 22] (by kernel_rfl) ?_
          refine RunsI.go 1 [.c 23, .c 24] (by kernel_rfl) ?_
          refine RunsI.region (by kernel_rfl) ?_
          refine RegI.pure 1 [2, 4, 7, 47] [(2, .pointer (some ⟨b2, 0, none⟩)), (4, .pointer (some ⟨b7, 0, none⟩)), (7, .int .i64 t32), (47, .pointer (some ⟨b2, 4, none⟩))] (by kernel_rfl) ?_
          refine RegI.op (by kernel_rfl) (OpE.loadBox 48 0 3 b2 4 (.int .i64 p0_1) h36 (by kernel_rfl) (by kernel_rfl) rfl (by kernel_rfl) ?_)
          refine RegI.pure 2 [2, 4, 7, 49, 50] [(2, .pointer (some ⟨b2, 0, none⟩)), (4, .pointer (some ⟨b7, 0, none⟩)), (7, .int .i64 t32), (49, .int .i64 (IntKind.wrap .i64 (p0_1 + 1))), (50, .pointer (some ⟨b2, 4, none⟩))] (by kernel_rfl) ?_
          refine RegI.op (by kernel_rfl) (OpE.storeBox 0 3 b2 4 (.int .i64 (IntKind.wrap .i64 (p0_1 + 1))) [.int .i64 p0_0_0, .int .u16 p0_0_1, .int .u8 p0_0_2, .int .i64 p0_0_3, .int .i64 (IntKind.wrap .i64 (p0_1 + 1)), .int .i64 p0_2] h36 (by kernel_rfl) (by kernel_rfl) rfl (by kernel_rfl) (by kernel_rfl) (by kernel_rfl) ?_)
          intro w48 h49 hk50
          refine RegI.done (by kernel_rfl) ?_
          refine RunsI.go 1 [.c 25, .c 26] (by kernel_rfl) ?_
          refine RunsI.any 19 (by kernel_rfl) (by kernel_rfl) (by kernel_rfl) (Kp (mines (pick [box b2 30 [.int .i64 p0_0_0, .int .u16 p0_0_1, .int .u8 p0_0_2, .int .i64 p0_0_3, .int .i64 (IntKind.wrap .i64 (p0_1 + 1)), .int .i64 p0_2], box b7 30 [.int .i64 0, .int .u16 0, .int .u8 0, .int .i64 0, .int .i64 0, .int .i64 0]] [1])) (World.drew w48)) ?_
          have h52 := h49.drew
          generalize World.drew w48 = w51 at h52 ⊢
          have hS53 := Kp.refl (mines (pick [box b2 30 [.int .i64 p0_0_0, .int .u16 p0_0_1, .int .u8 p0_0_2, .int .i64 p0_0_3, .int .i64 (IntKind.wrap .i64 (p0_1 + 1)), .int .i64 p0_2], box b7 30 [.int .i64 0, .int .u16 0, .int .u8 0, .int .i64 0, .int .i64 0, .int .i64 0]] [1])) w51
          refine AnyE.loadBox 0 51 0 30 b2 0 (.agg #[.int .i64 p0_0_0, .int .u16 p0_0_1, .int .u8 p0_0_2, .int .i64 p0_0_3, .int .i64 (IntKind.wrap .i64 (p0_1 + 1)), .int .i64 p0_2]) [1] h52 rfl (by kernel_rfl) hS53 rfl rfl (by kernel_rfl) (by kernel_rfl) ?_
          refine AnyE.pure 1 52 (.int .i64 t32) (by kernel_rfl) hS53 (fun _ => by kernel_rfl) ?_
          refine AnyE.pure 2 53 (.bool (decide (t32 > 0))) (by kernel_rfl) hS53 (fun _ => by kernel_rfl) ?_
          refine AnyE.pure 3 54 (.bool (decide (t32 > 0))) (by kernel_rfl) hS53 (fun _ => by kernel_rfl) ?_
          rcases of_cond h with ⟨hc55, h⟩ | ⟨hc55, h⟩
          · skip
            refine AnyE.fix 54 true hc55 (by kernel_rfl) (by kernel_rfl) ?_
            refine AnyE.pure 4 55 (.pointer (some ⟨b2, 4, none⟩)) (by kernel_rfl) hS53 (fun _ => by kernel_rfl) ?_
            refine AnyE.loadBox 5 56 0 3 b2 4 (.int .i64 (IntKind.wrap .i64 (p0_1 + 1))) [1] h52 rfl (by kernel_rfl) hS53 rfl rfl (by kernel_rfl) (by kernel_rfl) ?_
            refine AnyE.pure 6 57 (.int .i64 t32) (by kernel_rfl) hS53 (fun _ => by kernel_rfl) ?_
            refine AnyE.pure 7 58 (.int .i64 (IntKind.wrap .i64 (t32 + 1))) (by kernel_rfl) hS53 (fun _ => by kernel_rfl) ?_
            refine AnyE.pure 8 59 (.bool ((IntKind.wrap .i64 (p0_1 + 1)) == (IntKind.wrap .i64 (t32 + 1)))) (by kernel_rfl) hS53 (fun _ => by kernel_rfl) ?_
            refine AnyE.pure 9 60 (.bool ((IntKind.wrap .i64 (p0_1 + 1)) == (IntKind.wrap .i64 (t32 + 1)))) (by kernel_rfl) hS53 (fun _ => by kernel_rfl) ?_
            refine AnyE.pure 10 61 (.pointer (some ⟨b2, 4, none⟩)) (by kernel_rfl) hS53 (fun _ => by kernel_rfl) ?_
            refine AnyE.loadBox 11 62 0 3 b2 4 (.int .i64 (IntKind.wrap .i64 (p0_1 + 1))) [1] h52 rfl (by kernel_rfl) hS53 rfl rfl (by kernel_rfl) (by kernel_rfl) ?_
            refine AnyE.pure 12 63 (.pointer (some ⟨b2, 0, none⟩)) (by kernel_rfl) hS53 (fun _ => by kernel_rfl) ?_
            refine AnyE.pure 13 64 (.pointer (some ⟨b2, 3, none⟩)) (by kernel_rfl) hS53 (fun _ => by kernel_rfl) ?_
            refine AnyE.loadBox 14 65 0 3 b2 3 (.int .i64 p0_0_3) [1] h52 rfl (by kernel_rfl) hS53 rfl rfl (by kernel_rfl) (by kernel_rfl) ?_
            refine AnyE.pure 15 66 (.bool ((IntKind.wrap .i64 (p0_1 + 1)) == p0_0_3)) (by kernel_rfl) hS53 (fun _ => by kernel_rfl) ?_
            refine AnyE.one 16 (by kernel_rfl) (fun w56 hu57 => ?_)
            have h58 := h52.call hu57
            have hS59 := hS53.up hu57
            refine OpE.storeBox 1 30 b7 0 (.agg #[.int .i64 p0_0_0, .int .u16 p0_0_1, .int .u8 p0_0_2, .int .i64 p0_0_3, .int .i64 (IntKind.wrap .i64 (p0_1 + 1)), .int .i64 p0_2]) [.int .i64 p0_0_0, .int .u16 p0_0_1, .int .u8 p0_0_2, .int .i64 p0_0_3, .int .i64 (IntKind.wrap .i64 (p0_1 + 1)), .int .i64 p0_2] h58 (by kernel_rfl) (by kernel_rfl) rfl (by kernel_rfl) (by kernel_rfl) (by kernel_rfl) ?_
            intro w60 h61 hk62
            have hS63 := hS59.trans hk62 (Kp.turned h52 [1] rfl 1 rfl rfl)
            refine ⟨hS63, ?_⟩
            refine AnyE.pure 17 5 (.bool ((IntKind.wrap .i64 (p0_1 + 1)) == (IntKind.wrap .i64 (t32 + 1)))) (by kernel_rfl) hS63 (fun _ => by kernel_rfl) ?_
            refine AnyE.pure 18 6 (.bool ((IntKind.wrap .i64 (p0_1 + 1)) == p0_0_3)) (by kernel_rfl) hS63 (fun _ => by kernel_rfl) ?_
            refine AnyE.done (by kernel_rfl) (fun w64 hu65 => ?_)
            have h66 := h61.call hu65
            refine RunsI.only [4, 5, 6] [(4, .pointer (some ⟨b7, 0, none⟩)), (5, .bool ((IntKind.wrap .i64 (p0_1 + 1)) == (IntKind.wrap .i64 (t32 + 1)))), (6, .bool ((IntKind.wrap .i64 (p0_1 + 1)) == p0_0_3))] (by kernel_rfl) (by kernel_rfl) ?_
            refine RunsI.toRet (by kernel_rfl) ?_
            refine RetI.valW [.cell 4 30, .tmp 5, .tmp 6] [.agg #[.int .i64 p0_0_0, .int .u16 p0_0_1, .int .u8 p0_0_2, .int .i64 p0_0_3, .int .i64 (IntKind.wrap .i64 (p0_1 + 1)), .int .i64 p0_2], .bool ((IntKind.wrap .i64 (p0_1 + 1)) == (IntKind.wrap .i64 (t32 + 1))), .bool ((IntKind.wrap .i64 (p0_1 + 1)) == p0_0_3)] (.tuple #[.agg #[.int .i64 p0_0_0, .int .u16 p0_0_1, .int .u8 p0_0_2, .int .i64 p0_0_3, .int .i64 (IntKind.wrap .i64 (p0_1 + 1)), .int .i64 p0_2], .bool ((IntKind.wrap .i64 (p0_1 + 1)) == (IntKind.wrap .i64 (t32 + 1))), .bool ((IntKind.wrap .i64 (p0_1 + 1)) == p0_0_3)]) (by kernel_rfl) (ResAt.box 1 30 b7 0 h66 (by kernel_rfl) (by kernel_rfl) rfl (by kernel_rfl) (ResAt.tmp (by kernel_rfl) (by kernel_rfl) (ResAt.tmp (by kernel_rfl) (by kernel_rfl) rfl))) (by kernel_rfl) ?_
            obtain rfl := Option.some.inj h
            exact ⟨rfl, h66.below⟩
          · skip
            refine AnyE.fix 54 false hc55 (by kernel_rfl) (by kernel_rfl) ?_
            refine AnyE.no 4 55 (by kernel_rfl) hS53 ?_
            refine AnyE.no 5 56 (by kernel_rfl) hS53 ?_
            refine AnyE.no 6 57 (by kernel_rfl) hS53 ?_
            refine AnyE.no 7 58 (by kernel_rfl) hS53 ?_
            refine AnyE.no 8 59 (by kernel_rfl) hS53 ?_
            refine AnyE.pure 9 60 (.bool false) (by kernel_rfl) hS53 (fun _ => by kernel_rfl) ?_
            refine AnyE.pure 10 61 (.pointer (some ⟨b2, 4, none⟩)) (by kernel_rfl) hS53 (fun _ => by kernel_rfl) ?_
            refine AnyE.loadBox 11 62 0 3 b2 4 (.int .i64 (IntKind.wrap .i64 (p0_1 + 1))) [1] h52 rfl (by kernel_rfl) hS53 rfl rfl (by kernel_rfl) (by kernel_rfl) ?_
            refine AnyE.pure 12 63 (.pointer (some ⟨b2, 0, none⟩)) (by kernel_rfl) hS53 (fun _ => by kernel_rfl) ?_
            refine AnyE.pure 13 64 (.pointer (some ⟨b2, 3, none⟩)) (by kernel_rfl) hS53 (fun _ => by kernel_rfl) ?_
            refine AnyE.loadBox 14 65 0 3 b2 3 (.int .i64 p0_0_3) [1] h52 rfl (by kernel_rfl) hS53 rfl rfl (by kernel_rfl) (by kernel_rfl) ?_
            refine AnyE.pure 15 66 (.bool ((IntKind.wrap .i64 (p0_1 + 1)) == p0_0_3)) (by kernel_rfl) hS53 (fun _ => by kernel_rfl) ?_
            refine AnyE.one 16 (by kernel_rfl) (fun w67 hu68 => ?_)
            have h69 := h52.call hu68
            have hS70 := hS53.up hu68
            refine OpE.storeBox 1 30 b7 0 (.agg #[.int .i64 p0_0_0, .int .u16 p0_0_1, .int .u8 p0_0_2, .int .i64 p0_0_3, .int .i64 (IntKind.wrap .i64 (p0_1 + 1)), .int .i64 p0_2]) [.int .i64 p0_0_0, .int .u16 p0_0_1, .int .u8 p0_0_2, .int .i64 p0_0_3, .int .i64 (IntKind.wrap .i64 (p0_1 + 1)), .int .i64 p0_2] h69 (by kernel_rfl) (by kernel_rfl) rfl (by kernel_rfl) (by kernel_rfl) (by kernel_rfl) ?_
            intro w71 h72 hk73
            have hS74 := hS70.trans hk73 (Kp.turned h52 [1] rfl 1 rfl rfl)
            refine ⟨hS74, ?_⟩
            refine AnyE.pure 17 5 (.bool false) (by kernel_rfl) hS74 (fun _ => by kernel_rfl) ?_
            refine AnyE.pure 18 6 (.bool ((IntKind.wrap .i64 (p0_1 + 1)) == p0_0_3)) (by kernel_rfl) hS74 (fun _ => by kernel_rfl) ?_
            refine AnyE.done (by kernel_rfl) (fun w75 hu76 => ?_)
            have h77 := h72.call hu76
            refine RunsI.only [4, 5, 6] [(4, .pointer (some ⟨b7, 0, none⟩)), (5, .bool false), (6, .bool ((IntKind.wrap .i64 (p0_1 + 1)) == p0_0_3))] (by kernel_rfl) (by kernel_rfl) ?_
            refine RunsI.toRet (by kernel_rfl) ?_
            refine RetI.valW [.cell 4 30, .tmp 5, .tmp 6] [.agg #[.int .i64 p0_0_0, .int .u16 p0_0_1, .int .u8 p0_0_2, .int .i64 p0_0_3, .int .i64 (IntKind.wrap .i64 (p0_1 + 1)), .int .i64 p0_2], .bool false, .bool ((IntKind.wrap .i64 (p0_1 + 1)) == p0_0_3)] (.tuple #[.agg #[.int .i64 p0_0_0, .int .u16 p0_0_1, .int .u8 p0_0_2, .int .i64 p0_0_3, .int .i64 (IntKind.wrap .i64 (p0_1 + 1)), .int .i64 p0_2], .bool false, .bool ((IntKind.wrap .i64 (p0_1 + 1)) == p0_0_3)]) (by kernel_rfl) (ResAt.box 1 30 b7 0 h77 (by kernel_rfl) (by kernel_rfl) rfl (by kernel_rfl) (ResAt.tmp (by kernel_rfl) (by kernel_rfl) (ResAt.tmp (by kernel_rfl) (by kernel_rfl) rfl))) (by kernel_rfl) ?_
            obtain rfl := Option.some.inj h
            exact ⟨rfl, h77.below⟩
      clear hJ39
      rcases of_cond h with ⟨hc33, h⟩ | ⟨hc33, h⟩
      · skip
        refine RegI.fix 32 true hc33 (by kernel_rfl) (by kernel_rfl) ?_
        refine RegI.pure 1 [1, 2, 4, 7, 32, 33] [(1, .bool p1), (2, .pointer (some ⟨b2, 0, none⟩)), (4, .pointer (some ⟨b7, 0, none⟩)), (7, .int .i64 t32), (32, .bool true), (33, .pointer (some ⟨b2, 4, none⟩))] (by kernel_rfl) ?_
        refine RegI.op (by kernel_rfl) (OpE.loadBox 34 0 3 b2 4 (.int .i64 p0_1) h30 (by kernel_rfl) (by kernel_rfl) rfl (by kernel_rfl) ?_)
        refine RegI.pure 5 [1, 2, 4, 7, 39] [(1, .bool p1), (2, .pointer (some ⟨b2, 0, none⟩)), (4, .pointer (some ⟨b7, 0, none⟩)), (7, .int .i64 t32), (39, .bool (p0_1 == (IntKind.wrap .i64 (t32 - 1))))] (by kernel_rfl) ?_
        rcases of_cond h with ⟨hc34, h⟩ | ⟨hc34, h⟩
        · skip
          refine RegI.fix 39 true hc34 (by kernel_rfl) (by kernel_rfl) ?_
          refine RegI.pure 2 [2, 4, 7, 41] [(2, .pointer (some ⟨b2, 0, none⟩)), (4, .pointer (some ⟨b7, 0, none⟩)), (7, .int .i64 t32), (41, .bool p1)] (by kernel_rfl) ?_
          refine RegI.only [2, 4, 7, 41] [(2, .pointer (some ⟨b2, 0, none⟩)), (4, .pointer (some ⟨b7, 0, none⟩)), (7, .int .i64 t32), (41, .bool p1)] (by kernel_rfl) (by kernel_rfl) ?_
          exact hj40 p1 w28 h (h30.pick [0, 1] (by decide))
        · skip
          refine RegI.fix 39 false hc34 (by kernel_rfl) (by kernel_rfl) ?_
          refine RegI.pure 2 [2, 4, 7, 41] [(2, .pointer (some ⟨b2, 0, none⟩)), (4, .pointer (some ⟨b7, 0, none⟩)), (7, .int .i64 t32), (41, .bool false)] (by kernel_rfl) ?_
          refine RegI.only [2, 4, 7, 41] [(2, .pointer (some ⟨b2, 0, none⟩)), (4, .pointer (some ⟨b7, 0, none⟩)), (7, .int .i64 t32), (41, .bool false)] (by kernel_rfl) (by kernel_rfl) ?_
          exact hj40 false w28 h (h30.pick [0, 1] (by decide))
      · skip
        refine RegI.fix 32 false hc33 (by kernel_rfl) (by kernel_rfl) ?_
        refine RegI.pure 9 [2, 4, 7, 41] [(2, .pointer (some ⟨b2, 0, none⟩)), (4, .pointer (some ⟨b7, 0, none⟩)), (7, .int .i64 t32), (41, .bool false)] (by kernel_rfl) ?_
        refine RegI.only [2, 4, 7, 41] [(2, .pointer (some ⟨b2, 0, none⟩)), (4, .pointer (some ⟨b7, 0, none⟩)), (7, .int .i64 t32), (41, .bool false)] (by kernel_rfl) (by kernel_rfl) ?_
        exact hj40 false w28 h (h30.pick [0, 1] (by decide))
  clear hJ22
  rcases of_cond h with ⟨hc16, h⟩ | ⟨hc16, h⟩
  · skip
    refine RegI.fix 12 true hc16 (by kernel_rfl) (by kernel_rfl) ?_
    refine RegI.pure 12 [1, 2, 4, 24] [(1, .bool p1), (2, .pointer (some ⟨b2, 0, none⟩)), (4, .pointer (some ⟨b7, 0, none⟩)), (24, .bool true)] (by kernel_rfl) ?_
    refine RegI.only [1, 2, 4, 24] [(1, .bool p1), (2, .pointer (some ⟨b2, 0, none⟩)), (4, .pointer (some ⟨b7, 0, none⟩)), (24, .bool true)] (by kernel_rfl) (by kernel_rfl) ?_
    exact hj23 true w11 h (h13.pick [0, 1] (by decide))
  · skip
    refine RegI.fix 12 false hc16 (by kernel_rfl) (by kernel_rfl) ?_
    refine RegI.pure 1 [1, 2, 4, 12, 13] [(1, .bool p1), (2, .pointer (some ⟨b2, 0, none⟩)), (4, .pointer (some ⟨b7, 0, none⟩)), (12, .bool false), (13, .pointer (some ⟨b2, 4, none⟩))] (by kernel_rfl) ?_
    refine RegI.op (by kernel_rfl) (OpE.loadBox 14 0 3 b2 4 (.int .i64 p0_1) h13 (by kernel_rfl) (by kernel_rfl) rfl (by kernel_rfl) ?_)
    refine RegI.pure 3 [1, 2, 4, 17] [(1, .bool p1), (2, .pointer (some ⟨b2, 0, none⟩)), (4, .pointer (some ⟨b7, 0, none⟩)), (17, .bool (decide (p0_1 < 0)))] (by kernel_rfl) ?_
    rcases of_cond h with ⟨hc17, h⟩ | ⟨hc17, h⟩
    · skip
      refine RegI.fix 17 true hc17 (by kernel_rfl) (by kernel_rfl) ?_
      refine RegI.pure 7 [1, 2, 4, 24] [(1, .bool p1), (2, .pointer (some ⟨b2, 0, none⟩)), (4, .pointer (some ⟨b7, 0, none⟩)), (24, .bool true)] (by kernel_rfl) ?_
      refine RegI.only [1, 2, 4, 24] [(1, .bool p1), (2, .pointer (some ⟨b2, 0, none⟩)), (4, .pointer (some ⟨b7, 0, none⟩)), (24, .bool true)] (by kernel_rfl) (by kernel_rfl) ?_
      exact hj23 true w11 h (h13.pick [0, 1] (by decide))
    · skip
      refine RegI.fix 17 false hc17 (by kernel_rfl) (by kernel_rfl) ?_
      refine RegI.pure 1 [1, 2, 4, 17, 18] [(1, .bool p1), (2, .pointer (some ⟨b2, 0, none⟩)), (4, .pointer (some ⟨b7, 0, none⟩)), (17, .bool false), (18, .pointer (some ⟨b2, 4, none⟩))] (by kernel_rfl) ?_
      refine RegI.op (by kernel_rfl) (OpE.loadBox 19 0 3 b2 4 (.int .i64 p0_1) h13 (by kernel_rfl) (by kernel_rfl) rfl (by kernel_rfl) ?_)
      refine RegI.pure 2 [1, 2, 4, 17, 19, 21] [(1, .bool p1), (2, .pointer (some ⟨b2, 0, none⟩)), (4, .pointer (some ⟨b7, 0, none⟩)), (17, .bool false), (19, .int .i64 p0_1), (21, .pointer (some ⟨b2, 3, none⟩))] (by kernel_rfl) ?_
      refine RegI.op (by kernel_rfl) (OpE.loadBox 22 0 3 b2 3 (.int .i64 p0_0_3) h13 (by kernel_rfl) (by kernel_rfl) rfl (by kernel_rfl) ?_)
      refine RegI.pure 2 [1, 2, 4, 24] [(1, .bool p1), (2, .pointer (some ⟨b2, 0, none⟩)), (4, .pointer (some ⟨b7, 0, none⟩)), (24, .bool (decide (p0_1 ≥ p0_0_3)))] (by kernel_rfl) ?_
      refine RegI.only [1, 2, 4, 24] [(1, .bool p1), (2, .pointer (some ⟨b2, 0, none⟩)), (4, .pointer (some ⟨b7, 0, none⟩)), (24, .bool (decide (p0_1 ≥ p0_0_3)))] (by kernel_rfl) (by kernel_rfl) ?_
      exact hj23 (decide (p0_1 ≥ p0_0_3)) w11 h (h13.pick [0, 1] (by decide))
end

/-! ### charabanc/charabanclaw17.plain (function 13) -/
section
def charabanclaw17_plain_13.post (M0 : Nat → Prop) (w0 : World) (r : Int × Int × Int × Int × Int × Int) : Ending → World → Prop := fun e w => e = .returned (.agg #[.int .i64 r.1, .int .u16 r.2.1, .int .u8 r.2.2.1, .int .i64 r.2.2.2.1, .int .i64 r.2.2.2.2.1, .int .i64 r.2.2.2.2.2]) ∧ Below w0.heap.size w0 w
def charabanclaw17_plain_13.f (K : Nat) (p0_0_0 : Int) (p0_0_1 : Int) (p0_0_2 : Int) (p0_0_3 : Int) (p0_1 : Int) (p0_2 : Int) : Option (Int × Int × Int × Int × Int × Int) := some (p0_0_0, p0_0_1, p0_0_2, p0_0_3, p0_1, p0_2)
set_option maxRecDepth 100000 in
theorem charabanclaw17_plain_13_ok (K : Nat) (M0 : Nat → Prop) (w0 : World) (p0_0_0 : Int) (p0_0_1 : Int) (p0_0_2 : Int) (p0_0_3 : Int) (p0_1 : Int) (p0_2 : Int) (ho : ∀ b, M0 b → b < w0.heap.size) {r : Int × Int × Int × Int × Int × Int} (h : charabanclaw17_plain_13.f K p0_0_0 p0_0_1 p0_0_2 p0_0_3 p0_1 p0_2 = some r) :
    Calls Tryd.prog 13 #[.agg #[.int .i64 p0_0_0, .int .u16 p0_0_1, .int .u8 p0_0_2, .int .i64 p0_0_3, .int .i64 p0_1, .int .i64 p0_2]] w0 (charabanclaw17_plain_13.post M0 w0 r) := by
  unfold charabanclaw17_plain_13.f at h
  have h0 : Holds M0 w0 w0 [] := Holds.start ho
  have h0 : Holds M0 w0 w0 [] := h0
  refine calls_of F13 rfl [.agg #[.int .i64 p0_0_0, .int .u16 p0_0_1, .int .u8 p0_0_2, .int .i64 p0_0_3, .int .i64 p0_1, .int .i64 p0_2]] (by kernel_rfl) ?_
  refine RunsI.go 1 [.c 1, .c 2] (by kernel_rfl) ?_
  refine RunsI.region (by kernel_rfl) ?_
  refine RegI.op (by kernel_rfl) (OpE.box 1 26 [.int .i64 p0_0_0, .int .u16 p0_0_1, .int .u8 p0_0_2, .int .i64 p0_0_3, .int .i64 p0_1, .int .i64 p0_2] h0 (by kernel_rfl) (by kernel_rfl) ?_)
  intro w1 b2 h3 hb4 hn5
  refine RegI.op (by kernel_rfl) (OpE.box 2 30 [.int .i64 0, .int .u16 0, .int .u8 0, .int .i64 0, .int .i64 0, .int .i64 0] h3 (by kernel_rfl) (by kernel_rfl) ?_)
  intro w6 b7 h8 hb9 hn10
  refine RegI.done (by kernel_rfl) ?_
  refine RunsI.go 1 [.c 3, .c 4] (by kernel_rfl) ?_
  refine RunsI.region (by kernel_rfl) ?_
  refine RegI.pure 1 [1, 2, 3] [(1, .pointer (some ⟨b2, 0, none⟩)), (2, .pointer (some ⟨b7, 0, none⟩)), (3, .pointer (some ⟨b2, 0, none⟩))] (by kernel_rfl) ?_
  refine RegI.op (by kernel_rfl) (OpE.loadBox 4 0 24 b2 0 (.agg #[.int .i64 p0_0_0, .int .u16 p0_0_1, .int .u8 p0_0_2, .int .i64 p0_0_3]) h8 (by kernel_rfl) (by kernel_rfl) rfl (by kernel_rfl) ?_)
  refine RegI.pure 1 [1, 2, 4, 5] [(1, .pointer (some ⟨b2, 0, none⟩)), (2, .pointer (some ⟨b7, 0, none⟩)), (4, .agg #[.int .i64 p0_0_0, .int .u16 p0_0_1, .int .u8 p0_0_2, .int .i64 p0_0_3]), (5, .pointer (some ⟨b2, 4, none⟩))] (by kernel_rfl) ?_
  refine RegI.op (by kernel_rfl) (OpE.loadBox 6 0 3 b2 4 (.int .i64 p0_1) h8 (by kernel_rfl) (by kernel_rfl) rfl (by kernel_rfl) ?_)
  refine RegI.pure 1 [2, 4, 6, 7] [(2, .pointer (some ⟨b7, 0, none⟩)), (4, .agg #[.int .i64 p0_0_0, .int .u16 p0_0_1, .int .u8 p0_0_2, .int .i64 p0_0_3]), (6, .int .i64 p0_1), (7, .pointer (some ⟨b2, 5, none⟩))] (by kernel_rfl) ?_
  refine RegI.op (by kernel_rfl) (OpE.loadBox 8 0 3 b2 5 (.int .i64 p0_2) h8 (by kernel_rfl) (by kernel_rfl) rfl (by kernel_rfl) ?_)
  refine RegI.pure 1 [2, 9] [(2, .pointer (some ⟨b7, 0, none⟩)), (9, .agg #[.int .i64 p0_0_0, .int .u16 p0_0_1, .int .u8 p0_0_2, .int .i64 p0_0_3, .int .i64 p0_1, .int .i64 p0_2])] (by kernel_rfl) ?_
  refine RegI.op (by kernel_rfl) (OpE.storeBox 1 30 b7 0 (.agg #[.int .i64 p0_0_0, .int .u16 p0_0_1, .int .u8 p0_0_2, .int .i64 p0_0_3, .int .i64 p0_1, .int .i64 p0_2]) [.int .i64 p0_0_0, .int .u16 p0_0_1, .int .u8 p0_0_2, .int .i64 p0_0_3, .int .i64 p0_1, .int .i64 p0_2] h8 (by kernel_rfl) (by kernel_rfl) rfl (by kernel_rfl) (by kernel_rfl) (by kernel_rfl) ?_)
  intro w11 h12 hk13
  refine RegI.done (by kernel_rfl) ?_
  refine RunsI.toRet (by kernel_rfl) ?_
  refine RetI.valW [.cell 2 30] [.agg #[.int .i64 p0_0_0, .int .u16 p0_0_1, .int .u8 p0_0_2, .int .i64 p0_0_3, .int .i64 p0_1, .int .i64 p0_2]] (.agg #[.int .i64 p0_0_0, .int .u16 p0_0_1, .int .u8 p0_0_2, .int .i64 p0_0_3, .int .i64 p0_1, .int .i64 p0_2]) (by kernel_rfl) (ResAt.box 1 30 b7 0 h12 (by kernel_rfl) (by kernel_rfl) rfl (by kernel_rfl) rfl) (by kernel_rfl) ?_
  obtain rfl := Option.some.inj h
  exact ⟨rfl, h12.below⟩
end
end Go.Proofs.YtajnhlkkbhobiaaDoor.Cyc
