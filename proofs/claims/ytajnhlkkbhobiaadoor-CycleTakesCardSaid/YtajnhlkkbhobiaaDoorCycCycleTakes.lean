/- The statement's function CycleTakes as a plain Lean function; written by wip/eng.py. -/
import Derived.Test.YtajnhlkkbhobiaaDoorCyc2
set_option linter.unusedVariables false
set_option linter.unusedSimpArgs false
set_option maxHeartbeats 4000000
namespace Go.Proofs.YtajnhlkkbhobiaaDoor.Cyc
open Go.RowKit Go.Eng
noncomputable def B4 : Code := (Tryd.f4.body).getD .skip
noncomputable def F4 : Fun Tryd.prog := ⟨4, Tryd.f4, B4, 45, Tryd.func4, by kernel_rfl, by kernel_rfl, [], none⟩

/-! ### charabanc/charabanclaw17.CycleTakes (function 4) -/
section
def charabanclaw17_CycleTakes_4.post (M0 : Nat → Prop) (w0 : World) (r : Bool) : Ending → World → Prop := fun e w => e = .returned (.bool r) ∧ Below w0.heap.size w0 w
def charabanclaw17_CycleTakes_4.f (K : Nat) (p0_0 : Int) (p0_1 : Int) (p0_2 : Int) (p0_3 : Int) (p1 : List Bool) : Option Bool := (charabanclaw17_awake_10.f K).bind fun t10 => cond (!t10) (some false) (cond (decide ((p1.length : Int) > 100)) (some true) ((cycle_Take_18.f K p0_0 p0_1 p0_2 p0_3 p1).bind fun yt17 => (charabancref17_Take_19.f K p0_0 p0_1 p0_2 p0_3 p1).bind fun yt23 => cond (yt17.1 == yt23.1) (cond (yt17.2 == yt23.2) ((cycle_Names_21.f K p0_0 p0_1 p0_2 p0_3 p1).bind fun t39 => (charabancref17_Names_22.f K p0_0 p0_1 p0_2 p0_3 p1).bind fun t53 => (charabancref09_Same_20.f K t39 t53).bind fun t67 => some t67) (some false)) (some false)))
set_option maxRecDepth 100000 in
theorem charabanclaw17_CycleTakes_4_ok (K : Nat) (M0 : Nat → Prop) (w0 : World) (pA1 : Option Addr) (pc1 : Nat) (p0_0 : Int) (p0_1 : Int) (p0_2 : Int) (p0_3 : Int) (p1 : List Bool) (ho : ∀ b, M0 b → b < w0.heap.size) (hs1 : Sl Rp.bool w0 M0 (.slice pA1 p1.length pc1) p1) (hG0 : (gl 0 (tab_0.flatMap en_0)).ok w0 M0) (hG1 : (gl 1 (tab_1.flatMap en_1)).ok w0 M0) (hG2 : (gl 2 (tab_2.flatMap en_2)).ok w0 M0) {r : Bool} (h : charabanclaw17_CycleTakes_4.f K p0_0 p0_1 p0_2 p0_3 p1 = some r) :
    Calls Tryd.prog 4 #[.agg #[.int .i64 p0_0, .int .u16 p0_1, .int .u8 p0_2, .int .i64 p0_3], .slice pA1 p1.length pc1] w0 (charabanclaw17_CycleTakes_4.post M0 w0 r) := by
  unfold charabanclaw17_CycleTakes_4.f at h
  have h0 : Holds M0 w0 w0 [] := Holds.start ho
  have h01 := h0.addSl Rp.bool (.slice pA1 p1.length pc1) p1 (hs1.mono (fun _ _ hm => hm.elim id (fun hm => absurd hm (by simp [mines, sl]))))
  have h0g0 := h01.add (gl 0 (tab_0.flatMap en_0)) rfl ⟨hG0.1, fun hm => hG0.2.1 (hm.elim id (fun hm => absurd hm (by simp [mines, sl, gl]))), hG0.2.2⟩
  have h0g1 := h0g0.add (gl 1 (tab_1.flatMap en_1)) rfl ⟨hG1.1, fun hm => hG1.2.1 (hm.elim id (fun hm => absurd hm (by simp [mines, sl, gl]))), hG1.2.2⟩
  have h0g2 := h0g1.add (gl 2 (tab_2.flatMap en_2)) rfl ⟨hG2.1, fun hm => hG2.2.1 (hm.elim id (fun hm => absurd hm (by simp [mines, sl, gl]))), hG2.2.2⟩
  have h0 : Holds M0 w0 w0 [sl Rp.bool (.slice pA1 p1.length pc1) p1, gl 0 (tab_0.flatMap en_0), gl 1 (tab_1.flatMap en_1), gl 2 (tab_2.flatMap en_2)] := h0g2
  refine calls_of F4 rfl [.agg #[.int .i64 p0_0, .int .u16 p0_1, .int .u8 p0_2, .int .i64 p0_3], .slice pA1 p1.length pc1] (by kernel_rfl) ?_
  refine RunsI.go 1 [.c 1, .c 2] (by kernel_rfl) ?_
  refine RunsI.region (by kernel_rfl) ?_
  refine RegI.op (by kernel_rfl) (OpE.box 2 24 [.int .i64 p0_0, .int .u16 p0_1, .int .u8 p0_2, .int .i64 p0_3] h0 (by kernel_rfl) (by kernel_rfl) ?_)
  intro w1 b2 h3 hb4 hn5
  refine RegI.pure 1 [1, 2] [(1, .slice pA1 p1.length pc1), (2, .pointer (some ⟨b2, 0, none⟩))] (by kernel_rfl) ?_
  refine RegI.done (by kernel_rfl) ?_
  refine RunsI.go 1 [.c 3, .c 4] (by kernel_rfl) ?_
  refine RunsI.region (by kernel_rfl) ?_
  obtain ⟨t10, hg9, h⟩ := of_bind h
  refine RegI.op (by kernel_rfl) (OpE.call 10 (by kernel_rfl) 10 #[] (by kernel_rfl) ((charabanclaw17_awake_10_ok K _ w1  h3.old' (h3.get 1 rfl) (h3.get 2 rfl) (h3.get 3 rfl) hg9).mono ?_))
  rintro _ w6 ⟨rfl, hb7⟩
  refine ⟨_, rfl, ?_⟩
  have h8 := h3.call hb7
  refine RegI.pure 1 [1, 2, 5] [(1, .slice pA1 p1.length pc1), (2, .pointer (some ⟨b2, 0, none⟩)), (5, .bool t10)] (by kernel_rfl) ?_
  refine RegI.done (by kernel_rfl) ?_
  refine RunsI.go 2 [.c 6, .c 7, .c 12] (by kernel_rfl) ?_
  refine RunsI.region (by kernel_rfl) ?_
  refine RegI.pure 2 [1, 2, 12] [(1, .slice pA1 p1.length pc1), (2, .pointer (some ⟨b2, 0, none⟩)), (12, .bool (!t10))] (by kernel_rfl) ?_
  refine RegI.done (by kernel_rfl) ?_
  rcases of_cond h with ⟨hc11, h⟩ | ⟨hc11, h⟩
  · skip
    refine RunsI.fix 12 true hc11 (by kernel_rfl) (by kernel_rfl) ?_
    refine RunsI.cond true 8 (by kernel_rfl) ?_
    refine RunsI.go 1 [.c 9, .c 10, .c 12] (by kernel_rfl) ?_
    refine RunsI.region (by kernel_rfl) ?_
    refine RegI.pure 1 [4] [(4, .bool false)] (by kernel_rfl) ?_
    refine RegI.done (by kernel_rfl) ?_
    refine RunsI.ret (.bool false) (by kernel_rfl) (by kernel_rfl) ?_
    obtain rfl := Option.some.inj h
    exact ⟨rfl, h8.below⟩
  · skip
    refine RunsI.fix 12 false hc11 (by kernel_rfl) (by kernel_rfl) ?_
    refine RunsI.cond false 11 (by kernel_rfl) ?_
    refine RunsI.go 1 [.c 12] (by kernel_rfl) ?_
    refine RunsI.go 2 [.c 14, .c 15, .c 20] (by kernel_rfl) ?_
    refine RunsI.region (by kernel_rfl) ?_
    refine RegI.pure 3 [1, 2, 15] [(1, .slice pA1 p1.length pc1), (2, .pointer (some ⟨b2, 0, none⟩)), (15, .bool (decide ((p1.length : Int) > 100)))] (by kernel_rfl) ?_
    refine RegI.done (by kernel_rfl) ?_
    rcases of_cond h with ⟨hc12, h⟩ | ⟨hc12, h⟩
    · skip
      refine RunsI.fix 15 true hc12 (by kernel_rfl) (by kernel_rfl) ?_
      refine RunsI.cond true 16 (by kernel_rfl) ?_
      refine RunsI.go 1 [.c 17, .c 18, .c 20] (by kernel_rfl) ?_
      refine RunsI.region (by kernel_rfl) ?_
      refine RegI.pure 1 [4] [(4, .bool true)] (by kernel_rfl) ?_
      refine RegI.done (by kernel_rfl) ?_
      refine RunsI.ret (.bool true) (by kernel_rfl) (by kernel_rfl) ?_
      obtain rfl := Option.some.inj h
      exact ⟨rfl, h8.below⟩
    · skip
      refine RunsI.fix 15 false hc12 (by kernel_rfl) (by kernel_rfl) ?_
      refine RunsI.cond false 19 (by kernel_rfl) ?_
      refine RunsI.go 1 [.c 20] (by kernel_rfl) ?_
      refine RunsI.go 1 [.c 21, .c 22] (by kernel_rfl) ?_
      refine RunsI.region (by kernel_rfl) ?_
      refine RegI.op (by kernel_rfl) (OpE.loadBox 17 4 24 b2 0 (.agg #[.int .i64 p0_0, .int .u16 p0_1, .int .u8 p0_2, .int .i64 p0_3]) h8 (by kernel_rfl) (by kernel_rfl) rfl (by kernel_rfl) ?_)
      refine RegI.pure 1 [1, 2, 17, 18] [(1, .slice pA1 p1.length pc1), (2, .pointer (some ⟨b2, 0, none⟩)), (17, .agg #[.int .i64 p0_0, .int .u16 p0_1, .int .u8 p0_2, .int .i64 p0_3]), (18, .slice pA1 p1.length pc1)] (by kernel_rfl) ?_
      obtain ⟨⟨t17, t18⟩, hg16, h⟩ := of_bind h
      dsimp only at h
      refine RegI.op (by kernel_rfl) (OpE.call 19 (by kernel_rfl) 18 #[.agg #[.int .i64 p0_0, .int .u16 p0_1, .int .u8 p0_2, .int .i64 p0_3], .slice pA1 p1.length pc1] (by kernel_rfl) ((cycle_Take_18_ok K _ w6  pA1 pc1 p0_0 p0_1 p0_2 p0_3 p1 h8.old' (h8.get 0 rfl) (h8.get 1 rfl) (h8.get 2 rfl) (h8.get 3 rfl) hg16).mono ?_))
      rintro _ w13 ⟨rfl, hb14⟩
      refine ⟨_, rfl, ?_⟩
      have h15 := h8.call hb14
      refine RegI.pure 5 [1, 2, 6, 7] [(1, .slice pA1 p1.length pc1), (2, .pointer (some ⟨b2, 0, none⟩)), (6, .int .i64 t17), (7, .int .i64 t18)] (by kernel_rfl) ?_
      refine RegI.done (by kernel_rfl) ?_
      refine RunsI.go 1 [.c 23, .c 24] (by kernel_rfl) ?_
      refine RunsI.region (by kernel_rfl) ?_
      refine RegI.op (by kernel_rfl) (OpE.loadBox 23 4 24 b2 0 (.agg #[.int .i64 p0_0, .int .u16 p0_1, .int .u8 p0_2, .int .i64 p0_3]) h15 (by kernel_rfl) (by kernel_rfl) rfl (by kernel_rfl) ?_)
      refine RegI.pure 1 [1, 2, 6, 7, 23, 24] [(1, .slice pA1 p1.length pc1), (2, .pointer (some ⟨b2, 0, none⟩)), (6, .int .i64 t17), (7, .int .i64 t18), (23, .agg #[.int .i64 p0_0, .int .u16 p0_1, .int .u8 p0_2, .int .i64 p0_3]), (24, .slice pA1 p1.length pc1)] (by kernel_rfl) ?_
      obtain ⟨⟨t23, t24⟩, hg22, h⟩ := of_bind h
      dsimp only at h
      refine RegI.op (by kernel_rfl) (OpE.call 25 (by kernel_rfl) 19 #[.agg #[.int .i64 p0_0, .int .u16 p0_1, .int .u8 p0_2, .int .i64 p0_3], .slice pA1 p1.length pc1] (by kernel_rfl) ((charabancref17_Take_19_ok K _ w13  pA1 pc1 p0_0 p0_1 p0_2 p0_3 p1 h15.old' (h15.get 0 rfl) hg22).mono ?_))
      rintro _ w19 ⟨rfl, hb20⟩
      refine ⟨_, rfl, ?_⟩
      have h21 := h15.call hb20
      refine RegI.pure 5 [1, 2, 6, 7, 8, 9] [(1, .slice pA1 p1.length pc1), (2, .pointer (some ⟨b2, 0, none⟩)), (6, .int .i64 t17), (7, .int .i64 t18), (8, .int .i64 t23), (9, .int .i64 t24)] (by kernel_rfl) ?_
      refine RegI.done (by kernel_rfl) ?_
      refine RunsI.go 1 [.c 25, .c 26] (by kernel_rfl) ?_
      refine RunsI.any 18 (by kernel_rfl) (by kernel_rfl) (by kernel_rfl) (Kp ([] : List Nat) (World.drew w19)) ?_
      have h26 := h21.drew
      generalize World.drew w19 = w25 at h26 ⊢
      have hS27 := Kp.refl ([] : List Nat) w25
      refine AnyE.pure 0 28 (.int .i64 t17) (by kernel_rfl) hS27 (fun _ => by kernel_rfl) ?_
      refine AnyE.pure 1 29 (.int .i64 t23) (by kernel_rfl) hS27 (fun _ => by kernel_rfl) ?_
      refine AnyE.pure 2 30 (.bool (t17 == t23)) (by kernel_rfl) hS27 (fun _ => by kernel_rfl) ?_
      refine AnyE.pure 3 31 (.bool (t17 == t23)) (by kernel_rfl) hS27 (fun _ => by kernel_rfl) ?_
      rcases of_cond h with ⟨hc29, h⟩ | ⟨hc29, h⟩
      · skip
        refine AnyE.fix 31 true hc29 (by kernel_rfl) (by kernel_rfl) ?_
        refine AnyE.pure 4 32 (.int .i64 t18) (by kernel_rfl) hS27 (fun _ => by kernel_rfl) ?_
        refine AnyE.pure 5 33 (.int .i64 t24) (by kernel_rfl) hS27 (fun _ => by kernel_rfl) ?_
        refine AnyE.pure 6 34 (.bool (t18 == t24)) (by kernel_rfl) hS27 (fun _ => by kernel_rfl) ?_
        refine AnyE.pure 7 35 (.bool (t18 == t24)) (by kernel_rfl) hS27 (fun _ => by kernel_rfl) ?_
        refine AnyE.pure 8 36 (.bool (t18 == t24)) (by kernel_rfl) hS27 (fun _ => by kernel_rfl) ?_
        rcases of_cond h with ⟨hc30, h⟩ | ⟨hc30, h⟩
        · skip
          refine AnyE.fix 36 true hc30 (by kernel_rfl) (by kernel_rfl) ?_
          refine AnyE.loadBox 9 37 4 24 b2 0 (.agg #[.int .i64 p0_0, .int .u16 p0_1, .int .u8 p0_2, .int .i64 p0_3]) [] h26 rfl (by kernel_rfl) hS27 rfl rfl (by kernel_rfl) (by kernel_rfl) ?_
          refine AnyE.pure 10 38 (.slice pA1 p1.length pc1) (by kernel_rfl) hS27 (fun _ => by kernel_rfl) ?_
          refine AnyE.loadBox 12 40 4 24 b2 0 (.agg #[.int .i64 p0_0, .int .u16 p0_1, .int .u8 p0_2, .int .i64 p0_3]) [] h26 rfl (by kernel_rfl) hS27 rfl rfl (by kernel_rfl) (by kernel_rfl) ?_
          refine AnyE.pure 13 41 (.slice pA1 p1.length pc1) (by kernel_rfl) hS27 (fun _ => by kernel_rfl) ?_
          refine AnyE.one 11 (by kernel_rfl) (fun w31 hu32 => ?_)
          have h33 := h26.call hu32
          have hS34 := hS27.up hu32
          obtain ⟨t39, hg38, h⟩ := of_bind h
          refine OpE.call 39 (by kernel_rfl) 21 #[.agg #[.int .i64 p0_0, .int .u16 p0_1, .int .u8 p0_2, .int .i64 p0_3], .slice pA1 p1.length pc1] (by kernel_rfl) ((cycle_Names_21_ok K _ w31  pA1 pc1 p0_0 p0_1 p0_2 p0_3 p1 h33.old' (h33.get 0 rfl) (h33.get 1 rfl) (h33.get 2 rfl) (h33.get 3 rfl) hg38).mono ?_)
          rintro _ w35 ⟨A40, c41, rfl, hr43⟩
          refine ⟨_, rfl, ?_⟩
          have hb36 := hr43.below
          have h37 := h33.join hr43
          have hS44 := hS34.up hb36
          refine ⟨hS44, ?_⟩
          refine AnyE.one 14 (by kernel_rfl) (fun w45 hu46 => ?_)
          have h47 := h37.call hu46
          have hS48 := hS44.up hu46
          obtain ⟨t53, hg52, h⟩ := of_bind h
          refine OpE.call 42 (by kernel_rfl) 22 #[.agg #[.int .i64 p0_0, .int .u16 p0_1, .int .u8 p0_2, .int .i64 p0_3], .slice pA1 p1.length pc1] (by kernel_rfl) ((charabancref17_Names_22_ok K _ w45  pA1 pc1 p0_0 p0_1 p0_2 p0_3 p1 h47.old' (h47.get 0 rfl) hg52).mono ?_)
          rintro _ w49 ⟨A54, c55, rfl, hr57⟩
          refine ⟨_, rfl, ?_⟩
          have hb50 := hr57.below
          have h51 := h47.join hr57
          have hS58 := hS48.up hb50
          refine ⟨hS58, ?_⟩
          refine AnyE.one 15 (by kernel_rfl) (fun w59 hu60 => ?_)
          have h61 := h51.call hu60
          have hS62 := hS58.up hu60
          obtain ⟨t67, hg66, h⟩ := of_bind h
          refine OpE.call 43 (by kernel_rfl) 20 #[.slice A40 t39.length c41, .slice A54 t53.length c55] (by kernel_rfl) ((charabancref09_Same_20_ok K (fun _ => False) w59  A40 c41 A54 c55 t39 t53 (fun _ hf => hf.elim) (h61.ownSl 5 rfl) (h61.ownSl 6 rfl) hg66).mono ?_)
          rintro _ w63 ⟨rfl, hb64⟩
          refine ⟨_, rfl, ?_⟩
          have h65 := h61.call hb64
          have hS68 := hS62.up hb64
          refine ⟨hS68, ?_⟩
          refine AnyE.pure 16 44 (.bool t67) (by kernel_rfl) hS68 (fun _ => by kernel_rfl) ?_
          refine AnyE.pure 17 4 (.bool t67) (by kernel_rfl) hS68 (fun _ => by kernel_rfl) ?_
          refine AnyE.done (by kernel_rfl) (fun w69 hu70 => ?_)
          have h71 := h65.call hu70
          refine RunsI.only [4] [(4, .bool t67)] (by kernel_rfl) (by kernel_rfl) ?_
          refine RunsI.ret (.bool t67) (by kernel_rfl) (by kernel_rfl) ?_
          obtain rfl := Option.some.inj h
          exact ⟨rfl, h71.below⟩
        · skip
          refine AnyE.fix 36 false hc30 (by kernel_rfl) (by kernel_rfl) ?_
          refine AnyE.no 9 37 (by kernel_rfl) hS27 ?_
          refine AnyE.no 10 38 (by kernel_rfl) hS27 ?_
          refine AnyE.no 11 39 (by kernel_rfl) hS27 ?_
          refine AnyE.no 12 40 (by kernel_rfl) hS27 ?_
          refine AnyE.no 13 41 (by kernel_rfl) hS27 ?_
          refine AnyE.no 14 42 (by kernel_rfl) hS27 ?_
          refine AnyE.no 15 43 (by kernel_rfl) hS27 ?_
          refine AnyE.pure 16 44 (.bool false) (by kernel_rfl) hS27 (fun _ => by kernel_rfl) ?_
          refine AnyE.pure 17 4 (.bool false) (by kernel_rfl) hS27 (fun _ => by kernel_rfl) ?_
          refine AnyE.done (by kernel_rfl) (fun w72 hu73 => ?_)
          have h74 := h26.call hu73
          refine RunsI.only [4] [(4, .bool false)] (by kernel_rfl) (by kernel_rfl) ?_
          refine RunsI.ret (.bool false) (by kernel_rfl) (by kernel_rfl) ?_
          obtain rfl := Option.some.inj h
          exact ⟨rfl, h74.below⟩
      · skip
        refine AnyE.fix 31 false hc29 (by kernel_rfl) (by kernel_rfl) ?_
        refine AnyE.no 4 32 (by kernel_rfl) hS27 ?_
        refine AnyE.no 5 33 (by kernel_rfl) hS27 ?_
        refine AnyE.no 6 34 (by kernel_rfl) hS27 ?_
        refine AnyE.pure 7 35 (.bool false) (by kernel_rfl) hS27 (fun _ => by kernel_rfl) ?_
        refine AnyE.pure 8 36 (.bool false) (by kernel_rfl) hS27 (fun _ => by kernel_rfl) ?_
        refine AnyE.no 9 37 (by kernel_rfl) hS27 ?_
        refine AnyE.no 10 38 (by kernel_rfl) hS27 ?_
        refine AnyE.no 11 39 (by kernel_rfl) hS27 ?_
        refine AnyE.no 12 40 (by kernel_rfl) hS27 ?_
        refine AnyE.no 13 41 (by kernel_rfl) hS27 ?_
        refine AnyE.no 14 42 (by kernel_rfl) hS27 ?_
        refine AnyE.no 15 43 (by kernel_rfl) hS27 ?_
        refine AnyE.pure 16 44 (.bool false) (by kernel_rfl) hS27 (fun _ => by kernel_rfl) ?_
        refine AnyE.pure 17 4 (.bool false) (by kernel_rfl) hS27 (fun _ => by kernel_rfl) ?_
        refine AnyE.done (by kernel_rfl) (fun w75 hu76 => ?_)
        have h77 := h26.call hu76
        refine RunsI.only [4] [(4, .bool false)] (by kernel_rfl) (by kernel_rfl) ?_
        refine RunsI.ret (.bool false) (by kernel_rfl) (by kernel_rfl) ?_
        obtain rfl := Option.some.inj h
        exact ⟨rfl, h77.below⟩
end
end Go.Proofs.YtajnhlkkbhobiaaDoor.Cyc
