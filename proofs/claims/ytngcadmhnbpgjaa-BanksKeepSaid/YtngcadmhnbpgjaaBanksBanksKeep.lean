/- The statement's function BanksKeep as a plain Lean function; written by wip/eng.py. -/
import Derived.Test.YtngcadmhnbpgjaaBanks2
set_option linter.unusedVariables false
set_option linter.unusedSimpArgs false
set_option maxHeartbeats 4000000
namespace Go.Proofs.Ytngcadmhnbpgjaa.Banks
open Go.RowKit Go.Eng
noncomputable def B9 : Code := (Try.f9.body).getD .skip
noncomputable def F9 : Fun Try.prog := ⟨9, Try.f9, B9, 81, Try.func9, by kernel_rfl, by kernel_rfl⟩

/-! ### charabanc/charabanclaw19.BanksKeep (function 9) -/
section
def charabanclaw19_BanksKeep_9.post (M0 : Nat → Prop) (w0 : World) (r : Bool) : Ending → World → Prop := fun e w => e = .returned (.bool r) ∧ Below w0.heap.size w0 w
def charabanclaw19_BanksKeep_9.f (K : Nat) (p0_0 : List Int) (p0_1 : Int) (p0_2 : Int) (p0_3 : List (Int × Int)) (p1 : Int) (p2 : Int) : Option Bool := (charabanclaw19_awake_29.f K).bind fun t9 => cond (!t9) (some false) ((charabanclaw19_few_30.f K p0_0 p0_1 p0_2 p0_3).bind fun t15 => Let (fun (t22 : Bool) => cond t22 (some true) ((banks_Write_39.f K p0_0 p0_1 p0_2 p0_3 p1 (IntKind.wrap .u8 p2)).bind fun yt33 => (banks_Check_36.f K yt33.1 yt33.2.1 yt33.2.2.1 yt33.2.2.2).bind fun t56 => Let (fun (t72 : Bool) => cond t72 (some false) (cond (decide ((IntKind.wrap .i64 p1) < (p0_0.length : Int))) ((charabanclaw19_same_45.f K p0_0 p0_1 p0_2 p0_3 yt33.1 yt33.2.1 yt33.2.2.1 yt33.2.2.2).bind fun t85 => cond t85 ((banks_Read_34.f K yt33.1 yt33.2.1 yt33.2.2.1 yt33.2.2.2 p1).bind fun t88 => cond (inR p1 p0_0.length) (some (t88 == (rdD p0_0 p1))) none) (some false)) ((banks_Read_34.f K yt33.1 yt33.2.1 yt33.2.2.1 yt33.2.2.2 p1).bind fun t106 => cond (t106 == (IntKind.wrap .u8 p2)) ((banks_Read_34.f K p0_0 p0_1 p0_2 p0_3 p1).bind fun t109 => (banks_Write_39.f K yt33.1 yt33.2.1 yt33.2.2.1 yt33.2.2.2 p1 t109).bind fun yt118 => (charabanclaw19_same_45.f K yt118.1 yt118.2.1 yt118.2.2.1 yt118.2.2.2 p0_0 p0_1 p0_2 p0_3).bind fun t138 => some t138) (some false)))) (fun j75 => cond (t56 != 0) (j75 true) (cond (p2 != p1) ((banks_Read_34.f K yt33.1 yt33.2.1 yt33.2.2.1 yt33.2.2.2 p2).bind fun t63 => (banks_Read_34.f K p0_0 p0_1 p0_2 p0_3 p2).bind fun t65 => j75 (t63 != t65)) (j75 false))))) (fun j25 => cond (!t15) (j25 true) ((banks_Check_36.f K p0_0 p0_1 p0_2 p0_3).bind fun t21 => j25 (t21 != 0))))
set_option maxRecDepth 100000 in
theorem charabanclaw19_BanksKeep_9_ok (K : Nat) (M0 : Nat → Prop) (w0 : World) (pA0_0 : Option Addr) (pc0_0 : Nat) (pA0_3 : Option Addr) (pc0_3 : Nat) (p0_0 : List Int) (p0_1 : Int) (p0_2 : Int) (p0_3 : List (Int × Int)) (p1 : Int) (p2 : Int) (ho : ∀ b, M0 b → b < w0.heap.size) (hs0_0 : Sl (Rp.int .u8) w0 M0 (.slice pA0_0 p0_0.length pc0_0) p0_0) (hs0_3 : Sl (Rp.pair (Rp.int .i64) (Rp.int .u8)) w0 M0 (.slice pA0_3 p0_3.length pc0_3) p0_3) {r : Bool} (h : charabanclaw19_BanksKeep_9.f K p0_0 p0_1 p0_2 p0_3 p1 p2 = some r) :
    Calls Try.prog 9 #[.agg #[.slice pA0_0 p0_0.length pc0_0, .int .i64 p0_1, .int .i64 p0_2, .slice pA0_3 p0_3.length pc0_3], .int .u16 p1, .int .u16 p2] w0 (charabanclaw19_BanksKeep_9.post M0 w0 r) := by
  unfold charabanclaw19_BanksKeep_9.f at h
  have h0 : Holds M0 w0 w0 [] := Holds.start ho
  have h00_0 := h0.addSl (Rp.int .u8) (.slice pA0_0 p0_0.length pc0_0) p0_0 (hs0_0.mono (fun _ _ hm => hm.elim id (fun hm => absurd hm (by simp [mines, sl]))))
  have h00_3 := h00_0.addSl (Rp.pair (Rp.int .i64) (Rp.int .u8)) (.slice pA0_3 p0_3.length pc0_3) p0_3 (hs0_3.mono (fun _ _ hm => hm.elim id (fun hm => absurd hm (by simp [mines, sl]))))
  have h0 : Holds M0 w0 w0 [sl (Rp.int .u8) (.slice pA0_0 p0_0.length pc0_0) p0_0, sl (Rp.pair (Rp.int .i64) (Rp.int .u8)) (.slice pA0_3 p0_3.length pc0_3) p0_3] := h00_3
  refine calls_of F9 rfl [.agg #[.slice pA0_0 p0_0.length pc0_0, .int .i64 p0_1, .int .i64 p0_2, .slice pA0_3 p0_3.length pc0_3], .int .u16 p1, .int .u16 p2] (by kernel_rfl) ?_
  refine RunsI.go 1 [.c 1, .c 2] (by kernel_rfl) ?_
  refine RunsI.region (by kernel_rfl) ?_
  refine RegI.op (by kernel_rfl) (OpE.box 3 53 [.slice pA0_0 p0_0.length pc0_0, .int .i64 p0_1, .int .i64 p0_2, .slice pA0_3 p0_3.length pc0_3] h0 (by kernel_rfl) (by kernel_rfl) ?_)
  intro w1 b2 h3 hb4
  refine RegI.pure 1 [1, 2, 3] [(1, .int .u16 p1), (2, .int .u16 p2), (3, .pointer (some ⟨b2, 0, none⟩))] (by kernel_rfl) ?_
  refine RegI.done (by kernel_rfl) ?_
  refine RunsI.go 1 [.c 3, .c 4] (by kernel_rfl) ?_
  refine RunsI.region (by kernel_rfl) ?_
  obtain ⟨t9, hg8, h⟩ := of_bind h
  refine RegI.op (by kernel_rfl) (OpE.call 11 (by kernel_rfl) 29 #[] (by kernel_rfl) ((charabanclaw19_awake_29_ok K _ w1  h3.old' hg8).mono ?_))
  rintro _ w5 ⟨rfl, hb6⟩
  refine ⟨_, rfl, ?_⟩
  have h7 := h3.call hb6
  refine RegI.pure 1 [1, 2, 3, 7] [(1, .int .u16 p1), (2, .int .u16 p2), (3, .pointer (some ⟨b2, 0, none⟩)), (7, .bool t9)] (by kernel_rfl) ?_
  refine RegI.done (by kernel_rfl) ?_
  refine RunsI.go 2 [.c 6, .c 7, .c 12] (by kernel_rfl) ?_
  refine RunsI.region (by kernel_rfl) ?_
  refine RegI.pure 2 [1, 2, 3, 13] [(1, .int .u16 p1), (2, .int .u16 p2), (3, .pointer (some ⟨b2, 0, none⟩)), (13, .bool (!t9))] (by kernel_rfl) ?_
  refine RegI.done (by kernel_rfl) ?_
  rcases of_cond h with ⟨hc10, h⟩ | ⟨hc10, h⟩
  · skip
    refine RunsI.fix 13 true hc10 (by kernel_rfl) (by kernel_rfl) ?_
    refine RunsI.cond true 8 (by kernel_rfl) ?_
    refine RunsI.go 1 [.c 9, .c 10, .c 12] (by kernel_rfl) ?_
    refine RunsI.region (by kernel_rfl) ?_
    refine RegI.pure 1 [6] [(6, .bool false)] (by kernel_rfl) ?_
    refine RegI.done (by kernel_rfl) ?_
    refine RunsI.ret (.bool false) (by kernel_rfl) (by kernel_rfl) ?_
    obtain rfl := Option.some.inj h
    exact ⟨rfl, h7.below⟩
  · skip
    refine RunsI.fix 13 false hc10 (by kernel_rfl) (by kernel_rfl) ?_
    refine RunsI.cond false 11 (by kernel_rfl) ?_
    refine RunsI.go 1 [.c 12] (by kernel_rfl) ?_
    refine RunsI.go 1 [.c 13, .c 14] (by kernel_rfl) ?_
    refine RunsI.region (by kernel_rfl) ?_
    refine RegI.op (by kernel_rfl) (OpE.loadBox 14 2 53 b2 0 (.agg #[.slice pA0_0 p0_0.length pc0_0, .int .i64 p0_1, .int .i64 p0_2, .slice pA0_3 p0_3.length pc0_3]) h7 (by kernel_rfl) (by kernel_rfl) rfl (by kernel_rfl) ?_)
    obtain ⟨t15, hg14, h⟩ := of_bind h
    refine RegI.op (by kernel_rfl) (OpE.call 15 (by kernel_rfl) 30 #[.agg #[.slice pA0_0 p0_0.length pc0_0, .int .i64 p0_1, .int .i64 p0_2, .slice pA0_3 p0_3.length pc0_3]] (by kernel_rfl) ((charabanclaw19_few_30_ok K _ w5  pA0_0 pc0_0 pA0_3 pc0_3 p0_0 p0_1 p0_2 p0_3 h7.old' (h7.get 0 rfl) (h7.get 1 rfl) hg14).mono ?_))
    rintro _ w11 ⟨rfl, hb12⟩
    refine ⟨_, rfl, ?_⟩
    have h13 := h7.call hb12
    refine RegI.pure 1 [1, 2, 3, 8] [(1, .int .u16 p1), (2, .int .u16 p2), (3, .pointer (some ⟨b2, 0, none⟩)), (8, .bool t15)] (by kernel_rfl) ?_
    refine RegI.done (by kernel_rfl) ?_
    refine RunsI.go 2 [.c 16, .c 17, .c 22] (by kernel_rfl) ?_
    refine RunsI.region (by kernel_rfl) ?_
    refine RegI.pure 3 [1, 2, 3, 18] [(1, .int .u16 p1), (2, .int .u16 p2), (3, .pointer (some ⟨b2, 0, none⟩)), (18, .bool (!t15))] (by kernel_rfl) ?_
    obtain ⟨j25, hJ26, h⟩ := of_let h
    have hj27 : ∀ (t22 : Bool) (w24 : World), j25 t22 = some r → Holds M0 w0 w24 [box b2 53 [.slice pA0_0 p0_0.length pc0_0, .int .i64 p0_1, .int .i64 p0_2, .slice pA0_3 p0_3.length pc0_3], sl (Rp.int .u8) (.slice pA0_0 p0_0.length pc0_0) p0_0, sl (Rp.pair (Rp.int .i64) (Rp.int .u8)) (.slice pA0_3 p0_3.length pc0_3) p0_3] → RegI F9 16 [.c 17, .c 22] 7 [(1, .int .u16 p1), (2, .int .u16 p2), (3, .pointer (some ⟨b2, 0, none⟩)), (22, .bool t22)] w24 (charabanclaw19_BanksKeep_9.post M0 w0 r) := by
      intro t22 w24 h h23
      rw [hJ26] at h
      clear hJ26
      dsimp only at h
      refine RegI.done (by kernel_rfl) ?_
      rcases of_cond h with ⟨hc28, h⟩ | ⟨hc28, h⟩
      · skip
        refine RunsI.fix 22 true hc28 (by kernel_rfl) (by kernel_rfl) ?_
        refine RunsI.cond true 18 (by kernel_rfl) ?_
        refine RunsI.go 1 [.c 19, .c 20, .c 22] (by kernel_rfl) ?_
        refine RunsI.region (by kernel_rfl) ?_
        refine RegI.pure 1 [6] [(6, .bool true)] (by kernel_rfl) ?_
        refine RegI.done (by kernel_rfl) ?_
        refine RunsI.ret (.bool true) (by kernel_rfl) (by kernel_rfl) ?_
        obtain rfl := Option.some.inj h
        exact ⟨rfl, h23.below⟩
      · skip
        refine RunsI.fix 22 false hc28 (by kernel_rfl) (by kernel_rfl) ?_
        refine RunsI.cond false 21 (by kernel_rfl) ?_
        refine RunsI.go 1 [.c 22] (by kernel_rfl) ?_
        refine RunsI.go 1 [.c 23, .c 24] (by kernel_rfl) ?_
        refine RunsI.region (by kernel_rfl) ?_
        refine RegI.pure 3 [1, 2, 3, 9] [(1, .int .u16 p1), (2, .int .u16 p2), (3, .pointer (some ⟨b2, 0, none⟩)), (9, .int .u8 (IntKind.wrap .u8 p2))] (by kernel_rfl) ?_
        refine RegI.done (by kernel_rfl) ?_
        refine RunsI.go 1 [.c 25, .c 26] (by kernel_rfl) ?_
        refine RunsI.region (by kernel_rfl) ?_
        refine RegI.op (by kernel_rfl) (OpE.loadBox 25 0 53 b2 0 (.agg #[.slice pA0_0 p0_0.length pc0_0, .int .i64 p0_1, .int .i64 p0_2, .slice pA0_3 p0_3.length pc0_3]) h23 (by kernel_rfl) (by kernel_rfl) rfl (by kernel_rfl) ?_)
        refine RegI.pure 2 [1, 2, 3, 9, 25, 26, 27] [(1, .int .u16 p1), (2, .int .u16 p2), (3, .pointer (some ⟨b2, 0, none⟩)), (9, .int .u8 (IntKind.wrap .u8 p2)), (25, .agg #[.slice pA0_0 p0_0.length pc0_0, .int .i64 p0_1, .int .i64 p0_2, .slice pA0_3 p0_3.length pc0_3]), (26, .int .u16 p1), (27, .int .u8 (IntKind.wrap .u8 p2))] (by kernel_rfl) ?_
        obtain ⟨⟨t33, t37, t38, t39⟩, hg32, h⟩ := of_bind h
        dsimp only at h
        refine RegI.op (by kernel_rfl) (OpE.call 28 (by kernel_rfl) 39 #[.agg #[.slice pA0_0 p0_0.length pc0_0, .int .i64 p0_1, .int .i64 p0_2, .slice pA0_3 p0_3.length pc0_3], .int .u16 p1, .int .u8 (IntKind.wrap .u8 p2)] (by kernel_rfl) ((banks_Write_39_ok K _ w24  pA0_0 pc0_0 pA0_3 pc0_3 p0_0 p0_1 p0_2 p0_3 p1 (IntKind.wrap .u8 p2) h23.old' (h23.get 1 rfl) (h23.get 2 rfl) hg32).mono ?_))
        rintro _ w29 ⟨A34, c35, A40, c41, rfl, hr43⟩
        refine ⟨_, rfl, ?_⟩
        have hb30 := hr43.below
        have h31 := h23.join hr43
        refine RegI.op (by kernel_rfl) (OpE.box 10 53 [.slice none 0 0, .int .i64 0, .int .i64 0, .slice none 0 0] h31 (by kernel_rfl) (by kernel_rfl) ?_)
        intro w44 b45 h46 hb47
        refine RegI.op (by kernel_rfl) (OpE.storeBox 5 53 b45 0 (.agg #[.slice A34 t33.length c35, .int .i64 t37, .int .i64 t38, .slice A40 t39.length c41]) [.slice A34 t33.length c35, .int .i64 t37, .int .i64 t38, .slice A40 t39.length c41] h46 (by kernel_rfl) (by kernel_rfl) rfl (by kernel_rfl) (by kernel_rfl) (by kernel_rfl) ?_)
        intro w48 h49 hk50
        refine RegI.done (by kernel_rfl) ?_
        refine RunsI.go 2 [.c 28, .c 29, .c 34] (by kernel_rfl) ?_
        refine RunsI.any 17 (by kernel_rfl) (by kernel_rfl) (by kernel_rfl) (Kp ([] : List Nat) (World.drew w48)) ?_
        have h52 := h49.drew
        generalize World.drew w48 = w51 at h52 ⊢
        have hS53 := Kp.refl ([] : List Nat) w51
        refine AnyE.loadBox 0 29 5 53 b45 0 (.agg #[.slice A34 t33.length c35, .int .i64 t37, .int .i64 t38, .slice A40 t39.length c41]) [] h52 rfl (by kernel_rfl) hS53 rfl rfl (by kernel_rfl) (by kernel_rfl) ?_
        obtain ⟨t56, hg55, h⟩ := of_bind h
        refine AnyE.call 1 30 (.int .i64 t56) 36 #[.agg #[.slice A34 t33.length c35, .int .i64 t37, .int .i64 t38, .slice A40 t39.length c41]] (by kernel_rfl) hS53 (fun _ => by kernel_rfl) (fun w hk => banks_Check_36_ok K (fun _ => False) w A34 c35 A40 c41 t33 t37 t38 t39 (fun _ hf => hf.elim) (Sl.mono (h52.atI [] rfl hk 3 rfl rfl) (fun _ _ hf => hf.elim)) (Sl.mono (h52.atI [] rfl hk 4 rfl rfl) (fun _ _ hf => hf.elim)) hg55) ?_
        refine AnyE.pure 2 31 (.bool (t56 != 0)) (by kernel_rfl) hS53 (fun _ => by kernel_rfl) ?_
        refine AnyE.pure 3 32 (.bool (t56 != 0)) (by kernel_rfl) hS53 (fun _ => by kernel_rfl) ?_
        obtain ⟨j75, hJ76, h⟩ := of_let h
        have hj77 : ∀ (t72 : Bool) (w74 : World), j75 t72 = some r → Holds M0 w0 w74 [box b2 53 [.slice pA0_0 p0_0.length pc0_0, .int .i64 p0_1, .int .i64 p0_2, .slice pA0_3 p0_3.length pc0_3], sl (Rp.int .u8) (.slice pA0_0 p0_0.length pc0_0) p0_0, sl (Rp.pair (Rp.int .i64) (Rp.int .u8)) (.slice pA0_3 p0_3.length pc0_3) p0_3, box b45 53 [.slice A34 t33.length c35, .int .i64 t37, .int .i64 t38, .slice A40 t39.length c41], sl (Rp.int .u8) (.slice A34 t33.length c35) t33, sl (Rp.pair (Rp.int .i64) (Rp.int .u8)) (.slice A40 t39.length c41) t39] → RunsI F9 [.c 29, .c 34] [(1, .int .u16 p1), (3, .pointer (some ⟨b2, 0, none⟩)), (9, .int .u8 (IntKind.wrap .u8 p2)), (10, .pointer (some ⟨b45, 0, none⟩)), (45, .bool t72)] w74 (charabanclaw19_BanksKeep_9.post M0 w0 r) := by
          intro t72 w74 h h73
          rw [hJ76] at h
          clear hJ76
          dsimp only at h
          rcases of_cond h with ⟨hc78, h⟩ | ⟨hc78, h⟩
          · skip
            refine RunsI.fix 45 true hc78 (by kernel_rfl) (by kernel_rfl) ?_
            refine RunsI.cond true 30 (by kernel_rfl) ?_
            refine RunsI.go 1 [.c 31, .c 32, .c 34] (by kernel_rfl) ?_
            refine RunsI.region (by kernel_rfl) ?_
            refine RegI.pure 1 [6] [(6, .bool false)] (by kernel_rfl) ?_
            refine RegI.done (by kernel_rfl) ?_
            refine RunsI.ret (.bool false) (by kernel_rfl) (by kernel_rfl) ?_
            obtain rfl := Option.some.inj h
            exact ⟨rfl, h73.below⟩
          · skip
            refine RunsI.fix 45 false hc78 (by kernel_rfl) (by kernel_rfl) ?_
            refine RunsI.cond false 33 (by kernel_rfl) ?_
            refine RunsI.go 1 [.c 34] (by kernel_rfl) ?_
            refine RunsI.go 2 [.c 36, .c 37, .c 42] (by kernel_rfl) ?_
            refine RunsI.region (by kernel_rfl) ?_
            refine RegI.pure 3 [1, 3, 9, 10, 47, 48] [(1, .int .u16 p1), (3, .pointer (some ⟨b2, 0, none⟩)), (9, .int .u8 (IntKind.wrap .u8 p2)), (10, .pointer (some ⟨b45, 0, none⟩)), (47, .int .i64 (IntKind.wrap .i64 p1)), (48, .pointer (some ⟨b2, 0, none⟩))] (by kernel_rfl) ?_
            refine RegI.op (by kernel_rfl) (OpE.loadBox 49 0 38 b2 0 (.slice pA0_0 p0_0.length pc0_0) h73 (by kernel_rfl) (by kernel_rfl) rfl (by kernel_rfl) ?_)
            refine RegI.pure 2 [1, 3, 9, 10, 51] [(1, .int .u16 p1), (3, .pointer (some ⟨b2, 0, none⟩)), (9, .int .u8 (IntKind.wrap .u8 p2)), (10, .pointer (some ⟨b45, 0, none⟩)), (51, .bool (decide ((IntKind.wrap .i64 p1) < (p0_0.length : Int))))] (by kernel_rfl) ?_
            refine RegI.done (by kernel_rfl) ?_
            rcases of_cond h with ⟨hc79, h⟩ | ⟨hc79, h⟩
            · skip
              refine RunsI.fix 51 true hc79 (by kernel_rfl) (by kernel_rfl) ?_
              refine RunsI.cond true 38 (by kernel_rfl) ?_
              refine RunsI.go 1 [.c 39, .c 40, .c 42] (by kernel_rfl) ?_
              refine RunsI.any 15 (by kernel_rfl) (by kernel_rfl) (by kernel_rfl) (Kp ([] : List Nat) (World.drew w74)) ?_
              have h81 := h73.drew
              generalize World.drew w74 = w80 at h81 ⊢
              have hS82 := Kp.refl ([] : List Nat) w80
              refine AnyE.loadBox 0 52 0 53 b2 0 (.agg #[.slice pA0_0 p0_0.length pc0_0, .int .i64 p0_1, .int .i64 p0_2, .slice pA0_3 p0_3.length pc0_3]) [] h81 rfl (by kernel_rfl) hS82 rfl rfl (by kernel_rfl) (by kernel_rfl) ?_
              refine AnyE.loadBox 1 53 3 53 b45 0 (.agg #[.slice A34 t33.length c35, .int .i64 t37, .int .i64 t38, .slice A40 t39.length c41]) [] h81 rfl (by kernel_rfl) hS82 rfl rfl (by kernel_rfl) (by kernel_rfl) ?_
              obtain ⟨t85, hg84, h⟩ := of_bind h
              refine AnyE.call 2 54 (.bool t85) 45 #[.agg #[.slice pA0_0 p0_0.length pc0_0, .int .i64 p0_1, .int .i64 p0_2, .slice pA0_3 p0_3.length pc0_3], .agg #[.slice A34 t33.length c35, .int .i64 t37, .int .i64 t38, .slice A40 t39.length c41]] (by kernel_rfl) hS82 (fun _ => by kernel_rfl) (fun w hk => charabanclaw19_same_45_ok K (fun _ => False) w pA0_0 pc0_0 pA0_3 pc0_3 A34 c35 A40 c41 p0_0 p0_1 p0_2 p0_3 t33 t37 t38 t39 (fun _ hf => hf.elim) (Sl.mono (h81.atI [] rfl hk 1 rfl rfl) (fun _ _ hf => hf.elim)) (Sl.mono (h81.atI [] rfl hk 2 rfl rfl) (fun _ _ hf => hf.elim)) (Sl.mono (h81.atI [] rfl hk 4 rfl rfl) (fun _ _ hf => hf.elim)) (Sl.mono (h81.atI [] rfl hk 5 rfl rfl) (fun _ _ hf => hf.elim)) hg84) ?_
              refine AnyE.pure 3 55 (.bool t85) (by kernel_rfl) hS82 (fun _ => by kernel_rfl) ?_
              rcases of_cond h with ⟨hc86, h⟩ | ⟨hc86, h⟩
              · skip
                refine AnyE.fix 55 true hc86 (by kernel_rfl) (by kernel_rfl) ?_
                refine AnyE.loadBox 4 56 3 53 b45 0 (.agg #[.slice A34 t33.length c35, .int .i64 t37, .int .i64 t38, .slice A40 t39.length c41]) [] h81 rfl (by kernel_rfl) hS82 rfl rfl (by kernel_rfl) (by kernel_rfl) ?_
                refine AnyE.pure 5 57 (.int .u16 p1) (by kernel_rfl) hS82 (fun _ => by kernel_rfl) ?_
                obtain ⟨t88, hg87, h⟩ := of_bind h
                refine AnyE.call 6 58 (.int .u8 t88) 34 #[.agg #[.slice A34 t33.length c35, .int .i64 t37, .int .i64 t38, .slice A40 t39.length c41], .int .u16 p1] (by kernel_rfl) hS82 (fun _ => by kernel_rfl) (fun w hk => banks_Read_34_ok K (fun _ => False) w A34 c35 A40 c41 t33 t37 t38 t39 p1 (fun _ hf => hf.elim) (Sl.mono (h81.atI [] rfl hk 4 rfl rfl) (fun _ _ hf => hf.elim)) (Sl.mono (h81.atI [] rfl hk 5 rfl rfl) (fun _ _ hf => hf.elim)) hg87) ?_
                refine AnyE.pure 7 59 (.pointer (some ⟨b2, 0, none⟩)) (by kernel_rfl) hS82 (fun _ => by kernel_rfl) ?_
                refine AnyE.loadBox 8 60 0 38 b2 0 (.slice pA0_0 p0_0.length pc0_0) [] h81 rfl (by kernel_rfl) hS82 rfl rfl (by kernel_rfl) (by kernel_rfl) ?_
                refine AnyE.pure 9 61 (.int .u16 p1) (by kernel_rfl) hS82 (fun _ => by kernel_rfl) ?_
                obtain ⟨hc89, h⟩ := of_cond0 h
                refine AnyE.idxSl 10 62 1 38 p1 h81 (by kernel_rfl) hS82 rfl (by kernel_rfl) (by kernel_rfl) hc89 ?_
                intro b90 o91 cs92 hk93 h94
                obtain rfl := hk93
                refine AnyE.loadCel 11 63 6 5 b90 o91 0 (.int .u8 (rdD p0_0 p1)) [] h94 rfl (by kernel_rfl) hS82 rfl rfl (by kernel_rfl) (by kernel_rfl) ?_
                refine AnyE.pure 12 64 (.bool (t88 == (rdD p0_0 p1))) (by kernel_rfl) hS82 (fun _ => by kernel_rfl) ?_
                refine AnyE.pure 13 65 (.bool (t88 == (rdD p0_0 p1))) (by kernel_rfl) hS82 (fun _ => by kernel_rfl) ?_
                refine AnyE.pure 14 6 (.bool (t88 == (rdD p0_0 p1))) (by kernel_rfl) hS82 (fun _ => by kernel_rfl) ?_
                refine AnyE.done (by kernel_rfl) (fun w95 hu96 => ?_)
                have h97 := h94.call hu96
                refine RunsI.only [6] [(6, .bool (t88 == (rdD p0_0 p1)))] (by kernel_rfl) (by kernel_rfl) ?_
                refine RunsI.ret (.bool (t88 == (rdD p0_0 p1))) (by kernel_rfl) (by kernel_rfl) ?_
                obtain rfl := Option.some.inj h
                exact ⟨rfl, h97.below⟩
              · skip
                refine AnyE.fix 55 false hc86 (by kernel_rfl) (by kernel_rfl) ?_
                refine AnyE.no 4 56 (by kernel_rfl) hS82 ?_
                refine AnyE.no 5 57 (by kernel_rfl) hS82 ?_
                refine AnyE.no 6 58 (by kernel_rfl) hS82 ?_
                refine AnyE.no 7 59 (by kernel_rfl) hS82 ?_
                refine AnyE.no 8 60 (by kernel_rfl) hS82 ?_
                refine AnyE.no 9 61 (by kernel_rfl) hS82 ?_
                refine AnyE.no 10 62 (by kernel_rfl) hS82 ?_
                refine AnyE.no 11 63 (by kernel_rfl) hS82 ?_
                refine AnyE.no 12 64 (by kernel_rfl) hS82 ?_
                refine AnyE.pure 13 65 (.bool false) (by kernel_rfl) hS82 (fun _ => by kernel_rfl) ?_
                refine AnyE.pure 14 6 (.bool false) (by kernel_rfl) hS82 (fun _ => by kernel_rfl) ?_
                refine AnyE.done (by kernel_rfl) (fun w98 hu99 => ?_)
                have h100 := h81.call hu99
                refine RunsI.only [6] [(6, .bool false)] (by kernel_rfl) (by kernel_rfl) ?_
                refine RunsI.ret (.bool false) (by kernel_rfl) (by kernel_rfl) ?_
                obtain rfl := Option.some.inj h
                exact ⟨rfl, h100.below⟩
            · skip
              refine RunsI.fix 51 false hc79 (by kernel_rfl) (by kernel_rfl) ?_
              refine RunsI.cond false 41 (by kernel_rfl) ?_
              refine RunsI.go 1 [.c 42] (by kernel_rfl) ?_
              refine RunsI.go 1 [.c 43, .c 44] (by kernel_rfl) ?_
              refine RunsI.any 16 (by kernel_rfl) (by kernel_rfl) (by kernel_rfl) (Kp ([] : List Nat) (World.drew w74)) ?_
              have h102 := h73.drew
              generalize World.drew w74 = w101 at h102 ⊢
              have hS103 := Kp.refl ([] : List Nat) w101
              refine AnyE.loadBox 0 66 3 53 b45 0 (.agg #[.slice A34 t33.length c35, .int .i64 t37, .int .i64 t38, .slice A40 t39.length c41]) [] h102 rfl (by kernel_rfl) hS103 rfl rfl (by kernel_rfl) (by kernel_rfl) ?_
              refine AnyE.pure 1 67 (.int .u16 p1) (by kernel_rfl) hS103 (fun _ => by kernel_rfl) ?_
              obtain ⟨t106, hg105, h⟩ := of_bind h
              refine AnyE.call 2 68 (.int .u8 t106) 34 #[.agg #[.slice A34 t33.length c35, .int .i64 t37, .int .i64 t38, .slice A40 t39.length c41], .int .u16 p1] (by kernel_rfl) hS103 (fun _ => by kernel_rfl) (fun w hk => banks_Read_34_ok K (fun _ => False) w A34 c35 A40 c41 t33 t37 t38 t39 p1 (fun _ hf => hf.elim) (Sl.mono (h102.atI [] rfl hk 4 rfl rfl) (fun _ _ hf => hf.elim)) (Sl.mono (h102.atI [] rfl hk 5 rfl rfl) (fun _ _ hf => hf.elim)) hg105) ?_
              refine AnyE.pure 3 69 (.int .u8 (IntKind.wrap .u8 p2)) (by kernel_rfl) hS103 (fun _ => by kernel_rfl) ?_
              refine AnyE.pure 4 70 (.bool (t106 == (IntKind.wrap .u8 p2))) (by kernel_rfl) hS103 (fun _ => by kernel_rfl) ?_
              refine AnyE.pure 5 71 (.bool (t106 == (IntKind.wrap .u8 p2))) (by kernel_rfl) hS103 (fun _ => by kernel_rfl) ?_
              rcases of_cond h with ⟨hc107, h⟩ | ⟨hc107, h⟩
              · skip
                refine AnyE.fix 71 true hc107 (by kernel_rfl) (by kernel_rfl) ?_
                refine AnyE.loadBox 6 72 3 53 b45 0 (.agg #[.slice A34 t33.length c35, .int .i64 t37, .int .i64 t38, .slice A40 t39.length c41]) [] h102 rfl (by kernel_rfl) hS103 rfl rfl (by kernel_rfl) (by kernel_rfl) ?_
                refine AnyE.pure 7 73 (.int .u16 p1) (by kernel_rfl) hS103 (fun _ => by kernel_rfl) ?_
                refine AnyE.loadBox 8 74 0 53 b2 0 (.agg #[.slice pA0_0 p0_0.length pc0_0, .int .i64 p0_1, .int .i64 p0_2, .slice pA0_3 p0_3.length pc0_3]) [] h102 rfl (by kernel_rfl) hS103 rfl rfl (by kernel_rfl) (by kernel_rfl) ?_
                refine AnyE.pure 9 75 (.int .u16 p1) (by kernel_rfl) hS103 (fun _ => by kernel_rfl) ?_
                obtain ⟨t109, hg108, h⟩ := of_bind h
                refine AnyE.call 10 76 (.int .u8 t109) 34 #[.agg #[.slice pA0_0 p0_0.length pc0_0, .int .i64 p0_1, .int .i64 p0_2, .slice pA0_3 p0_3.length pc0_3], .int .u16 p1] (by kernel_rfl) hS103 (fun _ => by kernel_rfl) (fun w hk => banks_Read_34_ok K (fun _ => False) w pA0_0 pc0_0 pA0_3 pc0_3 p0_0 p0_1 p0_2 p0_3 p1 (fun _ hf => hf.elim) (Sl.mono (h102.atI [] rfl hk 1 rfl rfl) (fun _ _ hf => hf.elim)) (Sl.mono (h102.atI [] rfl hk 2 rfl rfl) (fun _ _ hf => hf.elim)) hg108) ?_
                refine AnyE.loadBox 12 78 0 53 b2 0 (.agg #[.slice pA0_0 p0_0.length pc0_0, .int .i64 p0_1, .int .i64 p0_2, .slice pA0_3 p0_3.length pc0_3]) [] h102 rfl (by kernel_rfl) hS103 rfl rfl (by kernel_rfl) (by kernel_rfl) ?_
                refine AnyE.one 11 (by kernel_rfl) (fun w110 hu111 => ?_)
                have h112 := h102.call hu111
                have hS113 := hS103.up hu111
                obtain ⟨⟨t118, t122, t123, t124⟩, hg117, h⟩ := of_bind h
                dsimp only at h
                refine OpE.call 77 (by kernel_rfl) 39 #[.agg #[.slice A34 t33.length c35, .int .i64 t37, .int .i64 t38, .slice A40 t39.length c41], .int .u16 p1, .int .u8 t109] (by kernel_rfl) ((banks_Write_39_ok K _ w110  A34 c35 A40 c41 t33 t37 t38 t39 p1 t109 h112.old' (h112.get 4 rfl) (h112.get 5 rfl) hg117).mono ?_)
                rintro _ w114 ⟨A119, c120, A125, c126, rfl, hr128⟩
                refine ⟨_, rfl, ?_⟩
                have hb115 := hr128.below
                have h116 := h112.join hr128
                have hS129 := hS113.up hb115
                refine ⟨hS129, ?_⟩
                refine AnyE.one 13 (by kernel_rfl) (fun w130 hu131 => ?_)
                have h132 := h116.call hu131
                have hS133 := hS129.up hu131
                obtain ⟨t138, hg137, h⟩ := of_bind h
                refine OpE.call 79 (by kernel_rfl) 45 #[.agg #[.slice A119 t118.length c120, .int .i64 t122, .int .i64 t123, .slice A125 t124.length c126], .agg #[.slice pA0_0 p0_0.length pc0_0, .int .i64 p0_1, .int .i64 p0_2, .slice pA0_3 p0_3.length pc0_3]] (by kernel_rfl) ((charabanclaw19_same_45_ok K _ w130  A119 c120 A125 c126 pA0_0 pc0_0 pA0_3 pc0_3 t118 t122 t123 t124 p0_0 p0_1 p0_2 p0_3 h132.old' (h132.get 6 rfl) (h132.get 7 rfl) (h132.get 1 rfl) (h132.get 2 rfl) hg137).mono ?_)
                rintro _ w134 ⟨rfl, hb135⟩
                refine ⟨_, rfl, ?_⟩
                have h136 := h132.call hb135
                have hS139 := hS133.up hb135
                refine ⟨hS139, ?_⟩
                refine AnyE.pure 14 80 (.bool t138) (by kernel_rfl) hS139 (fun _ => by kernel_rfl) ?_
                refine AnyE.pure 15 6 (.bool t138) (by kernel_rfl) hS139 (fun _ => by kernel_rfl) ?_
                refine AnyE.done (by kernel_rfl) (fun w140 hu141 => ?_)
                have h142 := h136.call hu141
                refine RunsI.only [6] [(6, .bool t138)] (by kernel_rfl) (by kernel_rfl) ?_
                refine RunsI.ret (.bool t138) (by kernel_rfl) (by kernel_rfl) ?_
                obtain rfl := Option.some.inj h
                exact ⟨rfl, h142.below⟩
              · skip
                refine AnyE.fix 71 false hc107 (by kernel_rfl) (by kernel_rfl) ?_
                refine AnyE.no 6 72 (by kernel_rfl) hS103 ?_
                refine AnyE.no 7 73 (by kernel_rfl) hS103 ?_
                refine AnyE.no 8 74 (by kernel_rfl) hS103 ?_
                refine AnyE.no 9 75 (by kernel_rfl) hS103 ?_
                refine AnyE.no 10 76 (by kernel_rfl) hS103 ?_
                refine AnyE.no 11 77 (by kernel_rfl) hS103 ?_
                refine AnyE.no 12 78 (by kernel_rfl) hS103 ?_
                refine AnyE.no 13 79 (by kernel_rfl) hS103 ?_
                refine AnyE.pure 14 80 (.bool false) (by kernel_rfl) hS103 (fun _ => by kernel_rfl) ?_
                refine AnyE.pure 15 6 (.bool false) (by kernel_rfl) hS103 (fun _ => by kernel_rfl) ?_
                refine AnyE.done (by kernel_rfl) (fun w143 hu144 => ?_)
                have h145 := h102.call hu144
                refine RunsI.only [6] [(6, .bool false)] (by kernel_rfl) (by kernel_rfl) ?_
                refine RunsI.ret (.bool false) (by kernel_rfl) (by kernel_rfl) ?_
                obtain rfl := Option.some.inj h
                exact ⟨rfl, h145.below⟩
        clear hJ76
        rcases of_cond h with ⟨hc57, h⟩ | ⟨hc57, h⟩
        · skip
          refine AnyE.fix 32 true hc57 (by kernel_rfl) (by kernel_rfl) ?_
          refine AnyE.no 4 33 (by kernel_rfl) hS53 ?_
          refine AnyE.no 5 34 (by kernel_rfl) hS53 ?_
          refine AnyE.no 6 35 (by kernel_rfl) hS53 ?_
          refine AnyE.no 7 36 (by kernel_rfl) hS53 ?_
          refine AnyE.no 8 37 (by kernel_rfl) hS53 ?_
          refine AnyE.no 9 38 (by kernel_rfl) hS53 ?_
          refine AnyE.no 10 39 (by kernel_rfl) hS53 ?_
          refine AnyE.no 11 40 (by kernel_rfl) hS53 ?_
          refine AnyE.no 12 41 (by kernel_rfl) hS53 ?_
          refine AnyE.no 13 42 (by kernel_rfl) hS53 ?_
          refine AnyE.no 14 43 (by kernel_rfl) hS53 ?_
          refine AnyE.no 15 44 (by kernel_rfl) hS53 ?_
          refine AnyE.pure 16 45 (.bool true) (by kernel_rfl) hS53 (fun _ => by kernel_rfl) ?_
          refine AnyE.done (by kernel_rfl) (fun w58 hu59 => ?_)
          have h60 := h52.call hu59
          refine RunsI.only [1, 3, 9, 10, 45] [(1, .int .u16 p1), (3, .pointer (some ⟨b2, 0, none⟩)), (9, .int .u8 (IntKind.wrap .u8 p2)), (10, .pointer (some ⟨b45, 0, none⟩)), (45, .bool true)] (by kernel_rfl) (by kernel_rfl) ?_
          refine RunsI.only [1, 3, 9, 10, 45] [(1, .int .u16 p1), (3, .pointer (some ⟨b2, 0, none⟩)), (9, .int .u8 (IntKind.wrap .u8 p2)), (10, .pointer (some ⟨b45, 0, none⟩)), (45, .bool true)] (by kernel_rfl) (by kernel_rfl) ?_
          exact hj77 true w58 h (h60.pick [0, 1, 2, 5, 3, 4] (by decide))
        · skip
          refine AnyE.fix 32 false hc57 (by kernel_rfl) (by kernel_rfl) ?_
          refine AnyE.pure 4 33 (.int .u16 p2) (by kernel_rfl) hS53 (fun _ => by kernel_rfl) ?_
          refine AnyE.pure 5 34 (.int .u16 p1) (by kernel_rfl) hS53 (fun _ => by kernel_rfl) ?_
          refine AnyE.pure 6 35 (.bool (p2 != p1)) (by kernel_rfl) hS53 (fun _ => by kernel_rfl) ?_
          refine AnyE.pure 7 36 (.bool (p2 != p1)) (by kernel_rfl) hS53 (fun _ => by kernel_rfl) ?_
          rcases of_cond h with ⟨hc61, h⟩ | ⟨hc61, h⟩
          · skip
            refine AnyE.fix 36 true hc61 (by kernel_rfl) (by kernel_rfl) ?_
            refine AnyE.loadBox 8 37 5 53 b45 0 (.agg #[.slice A34 t33.length c35, .int .i64 t37, .int .i64 t38, .slice A40 t39.length c41]) [] h52 rfl (by kernel_rfl) hS53 rfl rfl (by kernel_rfl) (by kernel_rfl) ?_
            refine AnyE.pure 9 38 (.int .u16 p2) (by kernel_rfl) hS53 (fun _ => by kernel_rfl) ?_
            obtain ⟨t63, hg62, h⟩ := of_bind h
            refine AnyE.call 10 39 (.int .u8 t63) 34 #[.agg #[.slice A34 t33.length c35, .int .i64 t37, .int .i64 t38, .slice A40 t39.length c41], .int .u16 p2] (by kernel_rfl) hS53 (fun _ => by kernel_rfl) (fun w hk => banks_Read_34_ok K (fun _ => False) w A34 c35 A40 c41 t33 t37 t38 t39 p2 (fun _ hf => hf.elim) (Sl.mono (h52.atI [] rfl hk 3 rfl rfl) (fun _ _ hf => hf.elim)) (Sl.mono (h52.atI [] rfl hk 4 rfl rfl) (fun _ _ hf => hf.elim)) hg62) ?_
            refine AnyE.loadBox 11 40 0 53 b2 0 (.agg #[.slice pA0_0 p0_0.length pc0_0, .int .i64 p0_1, .int .i64 p0_2, .slice pA0_3 p0_3.length pc0_3]) [] h52 rfl (by kernel_rfl) hS53 rfl rfl (by kernel_rfl) (by kernel_rfl) ?_
            refine AnyE.pure 12 41 (.int .u16 p2) (by kernel_rfl) hS53 (fun _ => by kernel_rfl) ?_
            obtain ⟨t65, hg64, h⟩ := of_bind h
            refine AnyE.call 13 42 (.int .u8 t65) 34 #[.agg #[.slice pA0_0 p0_0.length pc0_0, .int .i64 p0_1, .int .i64 p0_2, .slice pA0_3 p0_3.length pc0_3], .int .u16 p2] (by kernel_rfl) hS53 (fun _ => by kernel_rfl) (fun w hk => banks_Read_34_ok K (fun _ => False) w pA0_0 pc0_0 pA0_3 pc0_3 p0_0 p0_1 p0_2 p0_3 p2 (fun _ hf => hf.elim) (Sl.mono (h52.atI [] rfl hk 1 rfl rfl) (fun _ _ hf => hf.elim)) (Sl.mono (h52.atI [] rfl hk 2 rfl rfl) (fun _ _ hf => hf.elim)) hg64) ?_
            refine AnyE.pure 14 43 (.bool (t63 != t65)) (by kernel_rfl) hS53 (fun _ => by kernel_rfl) ?_
            refine AnyE.pure 15 44 (.bool (t63 != t65)) (by kernel_rfl) hS53 (fun _ => by kernel_rfl) ?_
            refine AnyE.pure 16 45 (.bool (t63 != t65)) (by kernel_rfl) hS53 (fun _ => by kernel_rfl) ?_
            refine AnyE.done (by kernel_rfl) (fun w66 hu67 => ?_)
            have h68 := h52.call hu67
            refine RunsI.only [1, 3, 9, 10, 45] [(1, .int .u16 p1), (3, .pointer (some ⟨b2, 0, none⟩)), (9, .int .u8 (IntKind.wrap .u8 p2)), (10, .pointer (some ⟨b45, 0, none⟩)), (45, .bool (t63 != t65))] (by kernel_rfl) (by kernel_rfl) ?_
            refine RunsI.only [1, 3, 9, 10, 45] [(1, .int .u16 p1), (3, .pointer (some ⟨b2, 0, none⟩)), (9, .int .u8 (IntKind.wrap .u8 p2)), (10, .pointer (some ⟨b45, 0, none⟩)), (45, .bool (t63 != t65))] (by kernel_rfl) (by kernel_rfl) ?_
            exact hj77 (t63 != t65) w66 h (h68.pick [0, 1, 2, 5, 3, 4] (by decide))
          · skip
            refine AnyE.fix 36 false hc61 (by kernel_rfl) (by kernel_rfl) ?_
            refine AnyE.no 8 37 (by kernel_rfl) hS53 ?_
            refine AnyE.no 9 38 (by kernel_rfl) hS53 ?_
            refine AnyE.no 10 39 (by kernel_rfl) hS53 ?_
            refine AnyE.no 11 40 (by kernel_rfl) hS53 ?_
            refine AnyE.no 12 41 (by kernel_rfl) hS53 ?_
            refine AnyE.no 13 42 (by kernel_rfl) hS53 ?_
            refine AnyE.no 14 43 (by kernel_rfl) hS53 ?_
            refine AnyE.pure 15 44 (.bool false) (by kernel_rfl) hS53 (fun _ => by kernel_rfl) ?_
            refine AnyE.pure 16 45 (.bool false) (by kernel_rfl) hS53 (fun _ => by kernel_rfl) ?_
            refine AnyE.done (by kernel_rfl) (fun w69 hu70 => ?_)
            have h71 := h52.call hu70
            refine RunsI.only [1, 3, 9, 10, 45] [(1, .int .u16 p1), (3, .pointer (some ⟨b2, 0, none⟩)), (9, .int .u8 (IntKind.wrap .u8 p2)), (10, .pointer (some ⟨b45, 0, none⟩)), (45, .bool false)] (by kernel_rfl) (by kernel_rfl) ?_
            refine RunsI.only [1, 3, 9, 10, 45] [(1, .int .u16 p1), (3, .pointer (some ⟨b2, 0, none⟩)), (9, .int .u8 (IntKind.wrap .u8 p2)), (10, .pointer (some ⟨b45, 0, none⟩)), (45, .bool false)] (by kernel_rfl) (by kernel_rfl) ?_
            exact hj77 false w69 h (h71.pick [0, 1, 2, 5, 3, 4] (by decide))
    clear hJ26
    rcases of_cond h with ⟨hc16, h⟩ | ⟨hc16, h⟩
    · skip
      refine RegI.fix 18 true hc16 (by kernel_rfl) (by kernel_rfl) ?_
      refine RegI.pure 4 [1, 2, 3, 22] [(1, .int .u16 p1), (2, .int .u16 p2), (3, .pointer (some ⟨b2, 0, none⟩)), (22, .bool true)] (by kernel_rfl) ?_
      refine RegI.only [1, 2, 3, 22] [(1, .int .u16 p1), (2, .int .u16 p2), (3, .pointer (some ⟨b2, 0, none⟩)), (22, .bool true)] (by kernel_rfl) (by kernel_rfl) ?_
      exact hj27 true w11 h (h13.pick [2, 0, 1] (by decide))
    · skip
      refine RegI.fix 18 false hc16 (by kernel_rfl) (by kernel_rfl) ?_
      refine RegI.op (by kernel_rfl) (OpE.loadBox 19 2 53 b2 0 (.agg #[.slice pA0_0 p0_0.length pc0_0, .int .i64 p0_1, .int .i64 p0_2, .slice pA0_3 p0_3.length pc0_3]) h13 (by kernel_rfl) (by kernel_rfl) rfl (by kernel_rfl) ?_)
      obtain ⟨t21, hg20, h⟩ := of_bind h
      refine RegI.op (by kernel_rfl) (OpE.call 20 (by kernel_rfl) 36 #[.agg #[.slice pA0_0 p0_0.length pc0_0, .int .i64 p0_1, .int .i64 p0_2, .slice pA0_3 p0_3.length pc0_3]] (by kernel_rfl) ((banks_Check_36_ok K _ w11  pA0_0 pc0_0 pA0_3 pc0_3 p0_0 p0_1 p0_2 p0_3 h13.old' (h13.get 0 rfl) (h13.get 1 rfl) hg20).mono ?_))
      rintro _ w17 ⟨rfl, hb18⟩
      refine ⟨_, rfl, ?_⟩
      have h19 := h13.call hb18
      refine RegI.pure 2 [1, 2, 3, 22] [(1, .int .u16 p1), (2, .int .u16 p2), (3, .pointer (some ⟨b2, 0, none⟩)), (22, .bool (t21 != 0))] (by kernel_rfl) ?_
      refine RegI.only [1, 2, 3, 22] [(1, .int .u16 p1), (2, .int .u16 p2), (3, .pointer (some ⟨b2, 0, none⟩)), (22, .bool (t21 != 0))] (by kernel_rfl) (by kernel_rfl) ?_
      exact hj27 (t21 != 0) w17 h (h19.pick [2, 0, 1] (by decide))
end
end Go.Proofs.Ytngcadmhnbpgjaa.Banks
