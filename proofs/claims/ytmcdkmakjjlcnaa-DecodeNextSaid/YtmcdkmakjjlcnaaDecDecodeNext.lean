/- The statement's function DecodeNext as a plain Lean function; written by wip/eng.py. -/
import Derived.Test.YtmcdkmakjjlcnaaDec3
set_option linter.unusedVariables false
set_option linter.unusedSimpArgs false
set_option maxHeartbeats 4000000
namespace Go.Proofs.Ytmcdkmakjjlcnaa.Dec
open Go.RowKit Go.Eng
noncomputable def B4 : Code := (Try.f4.body).getD .skip
noncomputable def F4 : Fun Try.prog := ⟨4, Try.f4, B4, 56, Try.func4, by kernel_rfl, by kernel_rfl, [], none⟩

/-! ### charabanc/charabanclaw08.DecodeNext (function 4) -/
section
def charabanclaw08_DecodeNext_4.post (M0 : Nat → Prop) (w0 : World) (r : Bool) : Ending → World → Prop := fun e w => e = .returned (.bool r) ∧ Below w0.heap.size w0 w
def charabanclaw08_DecodeNext_4.f (K : Nat) (p0 : List Int) : Option Bool := (charabanclaw08_awake_8.f K).bind fun t5 => cond (!t5) (some false) (cond (decide ((p0.length : Int) > 300)) (some true) ((decode_Next_15.f K p0).bind fun yt12 => (charabancref08_Next_16.f K p0).bind fun yt31 => (decode_All_17.f K p0).bind fun yt50 => (charabancref08_All_18.f K p0).bind fun yt60 => cond ((yt12.1 == yt31.1) && ((yt12.2.1 == yt31.2.1) && ((yt12.2.2.1 == yt31.2.2.1) && ((yt12.2.2.2.1 == yt31.2.2.2.1) && ((yt12.2.2.2.2.1 == yt31.2.2.2.2.1) && ((yt12.2.2.2.2.2.1 == yt31.2.2.2.2.2.1) && true)))))) (cond (yt12.2.2.2.2.2.2 == yt31.2.2.2.2.2.2) ((charabancref08_Same_19.f K yt50.1 yt60.1).bind fun t72 => cond t72 (some (yt50.2 == yt60.2)) (some false)) (some false)) (some false)))
set_option maxRecDepth 100000 in
theorem charabanclaw08_DecodeNext_4_ok (K : Nat) (M0 : Nat → Prop) (w0 : World) (pA0 : Option Addr) (pc0 : Nat) (p0 : List Int) (ho : ∀ b, M0 b → b < w0.heap.size) (hs0 : Sl (Rp.int .u8) w0 M0 (.slice pA0 p0.length pc0) p0) {r : Bool} (h : charabanclaw08_DecodeNext_4.f K p0 = some r) :
    Calls Try.prog 4 #[.slice pA0 p0.length pc0] w0 (charabanclaw08_DecodeNext_4.post M0 w0 r) := by
  unfold charabanclaw08_DecodeNext_4.f at h
  have h0 : Holds M0 w0 w0 [] := Holds.start ho
  have h00 := h0.addSl (Rp.int .u8) (.slice pA0 p0.length pc0) p0 (hs0.mono (fun _ _ hm => hm.elim id (fun hm => absurd hm (by simp [mines, sl]))))
  have h0 : Holds M0 w0 w0 [sl (Rp.int .u8) (.slice pA0 p0.length pc0) p0] := h00
  refine calls_of F4 rfl [.slice pA0 p0.length pc0] (by kernel_rfl) ?_
  refine RunsI.go 1 [.c 1, .c 2] (by kernel_rfl) ?_
  refine RunsI.region (by kernel_rfl) ?_
  refine RegI.pure 1 [0] [(0, .slice pA0 p0.length pc0)] (by kernel_rfl) ?_
  refine RegI.done (by kernel_rfl) ?_
  refine RunsI.go 1 [.c 3, .c 4] (by kernel_rfl) ?_
  refine RunsI.region (by kernel_rfl) ?_
  obtain ⟨t5, hg4, h⟩ := of_bind h
  refine RegI.op (by kernel_rfl) (OpE.call 12 (by kernel_rfl) 8 #[] (by kernel_rfl) ((charabanclaw08_awake_8_ok K _ w0  h0.old' hg4).mono ?_))
  rintro _ w1 ⟨rfl, hb2⟩
  refine ⟨_, rfl, ?_⟩
  have h3 := h0.call hb2
  refine RegI.pure 1 [0, 3] [(0, .slice pA0 p0.length pc0), (3, .bool t5)] (by kernel_rfl) ?_
  refine RegI.done (by kernel_rfl) ?_
  refine RunsI.go 2 [.c 6, .c 7, .c 12] (by kernel_rfl) ?_
  refine RunsI.region (by kernel_rfl) ?_
  refine RegI.pure 2 [0, 14] [(0, .slice pA0 p0.length pc0), (14, .bool (!t5))] (by kernel_rfl) ?_
  refine RegI.done (by kernel_rfl) ?_
  rcases of_cond h with ⟨hc6, h⟩ | ⟨hc6, h⟩
  · skip
    refine RunsI.fix 14 true hc6 (by kernel_rfl) (by kernel_rfl) ?_
    refine RunsI.cond true 8 (by kernel_rfl) ?_
    refine RunsI.go 1 [.c 9, .c 10, .c 12] (by kernel_rfl) ?_
    refine RunsI.region (by kernel_rfl) ?_
    refine RegI.pure 1 [2] [(2, .bool false)] (by kernel_rfl) ?_
    refine RegI.done (by kernel_rfl) ?_
    refine RunsI.ret (.bool false) (by kernel_rfl) (by kernel_rfl) ?_
    obtain rfl := Option.some.inj h
    exact ⟨rfl, h3.below⟩
  · skip
    refine RunsI.fix 14 false hc6 (by kernel_rfl) (by kernel_rfl) ?_
    refine RunsI.cond false 11 (by kernel_rfl) ?_
    refine RunsI.go 1 [.c 12] (by kernel_rfl) ?_
    refine RunsI.go 2 [.c 14, .c 15, .c 20] (by kernel_rfl) ?_
    refine RunsI.region (by kernel_rfl) ?_
    refine RegI.pure 3 [0, 17] [(0, .slice pA0 p0.length pc0), (17, .bool (decide ((p0.length : Int) > 300)))] (by kernel_rfl) ?_
    refine RegI.done (by kernel_rfl) ?_
    rcases of_cond h with ⟨hc7, h⟩ | ⟨hc7, h⟩
    · skip
      refine RunsI.fix 17 true hc7 (by kernel_rfl) (by kernel_rfl) ?_
      refine RunsI.cond true 16 (by kernel_rfl) ?_
      refine RunsI.go 1 [.c 17, .c 18, .c 20] (by kernel_rfl) ?_
      refine RunsI.region (by kernel_rfl) ?_
      refine RegI.pure 1 [2] [(2, .bool true)] (by kernel_rfl) ?_
      refine RegI.done (by kernel_rfl) ?_
      refine RunsI.ret (.bool true) (by kernel_rfl) (by kernel_rfl) ?_
      obtain rfl := Option.some.inj h
      exact ⟨rfl, h3.below⟩
    · skip
      refine RunsI.fix 17 false hc7 (by kernel_rfl) (by kernel_rfl) ?_
      refine RunsI.cond false 19 (by kernel_rfl) ?_
      refine RunsI.go 1 [.c 20] (by kernel_rfl) ?_
      refine RunsI.go 1 [.c 21, .c 22] (by kernel_rfl) ?_
      refine RunsI.region (by kernel_rfl) ?_
      refine RegI.pure 1 [0, 19] [(0, .slice pA0 p0.length pc0), (19, .slice pA0 p0.length pc0)] (by kernel_rfl) ?_
      obtain ⟨⟨t12, t13, t14, t15, t16, t17, t18⟩, hg11, h⟩ := of_bind h
      dsimp only at h
      refine RegI.op (by kernel_rfl) (OpE.call 20 (by kernel_rfl) 15 #[.slice pA0 p0.length pc0] (by kernel_rfl) ((decode_Next_15_ok K _ w1  pA0 pc0 p0 h3.old' (h3.get 0 rfl) hg11).mono ?_))
      rintro _ w8 ⟨rfl, hb9⟩
      refine ⟨_, rfl, ?_⟩
      have h10 := h3.call hb9
      refine RegI.pure 3 [0, 21, 22] [(0, .slice pA0 p0.length pc0), (21, .agg #[.int .i64 t12, .int .u8 t13, .int .u8 t14, .int .u16 t15, .int .i64 t16, .int .i64 t17]), (22, .bool t18)] (by kernel_rfl) ?_
      refine RegI.op (by kernel_rfl) (OpE.box 4 30 [.int .i64 0, .int .u8 0, .int .u8 0, .int .u16 0, .int .i64 0, .int .i64 0] h10 (by kernel_rfl) (by kernel_rfl) ?_)
      intro w19 b20 h21 hb22 hn23
      refine RegI.op (by kernel_rfl) (OpE.storeBox 1 30 b20 0 (.agg #[.int .i64 t12, .int .u8 t13, .int .u8 t14, .int .u16 t15, .int .i64 t16, .int .i64 t17]) [.int .i64 t12, .int .u8 t13, .int .u8 t14, .int .u16 t15, .int .i64 t16, .int .i64 t17] h21 (by kernel_rfl) (by kernel_rfl) rfl (by kernel_rfl) (by kernel_rfl) (by kernel_rfl) ?_)
      intro w24 h25 hk26
      refine RegI.pure 1 [0, 4, 5] [(0, .slice pA0 p0.length pc0), (4, .pointer (some ⟨b20, 0, none⟩)), (5, .bool t18)] (by kernel_rfl) ?_
      refine RegI.done (by kernel_rfl) ?_
      refine RunsI.go 1 [.c 23, .c 24] (by kernel_rfl) ?_
      refine RunsI.region (by kernel_rfl) ?_
      refine RegI.pure 1 [0, 4, 5, 24] [(0, .slice pA0 p0.length pc0), (4, .pointer (some ⟨b20, 0, none⟩)), (5, .bool t18), (24, .slice pA0 p0.length pc0)] (by kernel_rfl) ?_
      obtain ⟨⟨t31, t32, t33, t34, t35, t36, t37⟩, hg30, h⟩ := of_bind h
      dsimp only at h
      refine RegI.op (by kernel_rfl) (OpE.call 25 (by kernel_rfl) 16 #[.slice pA0 p0.length pc0] (by kernel_rfl) ((charabancref08_Next_16_ok K _ w24  pA0 pc0 p0 h25.old' (h25.get 0 rfl) hg30).mono ?_))
      rintro _ w27 ⟨rfl, hb28⟩
      refine ⟨_, rfl, ?_⟩
      have h29 := h25.call hb28
      refine RegI.pure 3 [0, 4, 5, 26, 27] [(0, .slice pA0 p0.length pc0), (4, .pointer (some ⟨b20, 0, none⟩)), (5, .bool t18), (26, .agg #[.int .i64 t31, .int .u8 t32, .int .u8 t33, .int .u16 t34, .int .i64 t35, .int .i64 t36]), (27, .bool t37)] (by kernel_rfl) ?_
      refine RegI.op (by kernel_rfl) (OpE.box 6 30 [.int .i64 0, .int .u8 0, .int .u8 0, .int .u16 0, .int .i64 0, .int .i64 0] h29 (by kernel_rfl) (by kernel_rfl) ?_)
      intro w38 b39 h40 hb41 hn42
      refine RegI.op (by kernel_rfl) (OpE.storeBox 2 30 b39 0 (.agg #[.int .i64 t31, .int .u8 t32, .int .u8 t33, .int .u16 t34, .int .i64 t35, .int .i64 t36]) [.int .i64 t31, .int .u8 t32, .int .u8 t33, .int .u16 t34, .int .i64 t35, .int .i64 t36] h40 (by kernel_rfl) (by kernel_rfl) rfl (by kernel_rfl) (by kernel_rfl) (by kernel_rfl) ?_)
      intro w43 h44 hk45
      refine RegI.pure 1 [0, 4, 5, 6, 7] [(0, .slice pA0 p0.length pc0), (4, .pointer (some ⟨b20, 0, none⟩)), (5, .bool t18), (6, .pointer (some ⟨b39, 0, none⟩)), (7, .bool t37)] (by kernel_rfl) ?_
      refine RegI.done (by kernel_rfl) ?_
      refine RunsI.go 1 [.c 25, .c 26] (by kernel_rfl) ?_
      refine RunsI.region (by kernel_rfl) ?_
      refine RegI.pure 1 [0, 4, 5, 6, 7, 29] [(0, .slice pA0 p0.length pc0), (4, .pointer (some ⟨b20, 0, none⟩)), (5, .bool t18), (6, .pointer (some ⟨b39, 0, none⟩)), (7, .bool t37), (29, .slice pA0 p0.length pc0)] (by kernel_rfl) ?_
      obtain ⟨⟨t50, t54⟩, hg49, h⟩ := of_bind h
      dsimp only at h
      refine RegI.op (by kernel_rfl) (OpE.call 30 (by kernel_rfl) 17 #[.slice pA0 p0.length pc0] (by kernel_rfl) ((decode_All_17_ok K _ w43  pA0 pc0 p0 h44.old' (h44.get 0 rfl) hg49).mono ?_))
      rintro _ w46 ⟨A51, c52, rfl, hr55⟩
      refine ⟨_, rfl, ?_⟩
      have hb47 := hr55.below
      have h48 := h44.join hr55
      refine RegI.pure 5 [0, 4, 5, 6, 7, 8, 9] [(0, .slice pA0 p0.length pc0), (4, .pointer (some ⟨b20, 0, none⟩)), (5, .bool t18), (6, .pointer (some ⟨b39, 0, none⟩)), (7, .bool t37), (8, .slice A51 t50.length c52), (9, .int .i64 t54)] (by kernel_rfl) ?_
      refine RegI.done (by kernel_rfl) ?_
      refine RunsI.go 1 [.c 27, .c 28] (by kernel_rfl) ?_
      refine RunsI.region (by kernel_rfl) ?_
      refine RegI.pure 1 [4, 5, 6, 7, 8, 9, 34] [(4, .pointer (some ⟨b20, 0, none⟩)), (5, .bool t18), (6, .pointer (some ⟨b39, 0, none⟩)), (7, .bool t37), (8, .slice A51 t50.length c52), (9, .int .i64 t54), (34, .slice pA0 p0.length pc0)] (by kernel_rfl) ?_
      obtain ⟨⟨t60, t64⟩, hg59, h⟩ := of_bind h
      dsimp only at h
      refine RegI.op (by kernel_rfl) (OpE.call 35 (by kernel_rfl) 18 #[.slice pA0 p0.length pc0] (by kernel_rfl) ((charabancref08_All_18_ok K _ w46  pA0 pc0 p0 h48.old' (h48.get 0 rfl) hg59).mono ?_))
      rintro _ w56 ⟨A61, c62, rfl, hr65⟩
      refine ⟨_, rfl, ?_⟩
      have hb57 := hr65.below
      have h58 := h48.join hr65
      refine RegI.pure 5 [4, 5, 6, 7, 8, 9, 10, 11] [(4, .pointer (some ⟨b20, 0, none⟩)), (5, .bool t18), (6, .pointer (some ⟨b39, 0, none⟩)), (7, .bool t37), (8, .slice A51 t50.length c52), (9, .int .i64 t54), (10, .slice A61 t60.length c62), (11, .int .i64 t64)] (by kernel_rfl) ?_
      refine RegI.done (by kernel_rfl) ?_
      refine RunsI.go 1 [.c 29, .c 30] (by kernel_rfl) ?_
      refine RunsI.region (by kernel_rfl) ?_
      refine RegI.op (by kernel_rfl) (OpE.loadBox 38 1 30 b20 0 (.agg #[.int .i64 t12, .int .u8 t13, .int .u8 t14, .int .u16 t15, .int .i64 t16, .int .i64 t17]) h58 (by kernel_rfl) (by kernel_rfl) rfl (by kernel_rfl) ?_)
      refine RegI.op (by kernel_rfl) (OpE.loadBox 39 2 30 b39 0 (.agg #[.int .i64 t31, .int .u8 t32, .int .u8 t33, .int .u16 t34, .int .i64 t35, .int .i64 t36]) h58 (by kernel_rfl) (by kernel_rfl) rfl (by kernel_rfl) ?_)
      refine RegI.op (by kernel_rfl) (OpE.run 40 (by kernel_rfl) (run_eqS (neg := false) (t := 30) (x := .agg #[.int .i64 t12, .int .u8 t13, .int .u8 t14, .int .u16 t15, .int .i64 t16, .int .i64 t17]) (y := .agg #[.int .i64 t31, .int .u8 t32, .int .u8 t33, .int .u16 t34, .int .i64 t35, .int .i64 t36]) (b := ((t12 == t31) && ((t13 == t32) && ((t14 == t33) && ((t15 == t34) && ((t16 == t35) && ((t17 == t36) && true))))))) (by kernel_rfl) (by kernel_rfl) (by kernel_rfl) (by kernel_rfl)) ?_)
      refine RegI.pure 1 [5, 7, 8, 9, 10, 11, 41] [(5, .bool t18), (7, .bool t37), (8, .slice A51 t50.length c52), (9, .int .i64 t54), (10, .slice A61 t60.length c62), (11, .int .i64 t64), (41, .bool ((t12 == t31) && ((t13 == t32) && ((t14 == t33) && ((t15 == t34) && ((t16 == t35) && ((t17 == t36) && true)))))))] (by kernel_rfl) ?_
      rcases of_cond h with ⟨hc66, h⟩ | ⟨hc66, h⟩
      · skip
        refine RegI.fix 41 true hc66 (by kernel_rfl) (by kernel_rfl) ?_
        refine RegI.pure 5 [8, 9, 10, 11, 46] [(8, .slice A51 t50.length c52), (9, .int .i64 t54), (10, .slice A61 t60.length c62), (11, .int .i64 t64), (46, .bool (t18 == t37))] (by kernel_rfl) ?_
        rcases of_cond h with ⟨hc67, h⟩ | ⟨hc67, h⟩
        · skip
          refine RegI.fix 46 true hc67 (by kernel_rfl) (by kernel_rfl) ?_
          refine RegI.pure 2 [9, 11, 46, 47, 48] [(9, .int .i64 t54), (11, .int .i64 t64), (46, .bool true), (47, .slice A51 t50.length c52), (48, .slice A61 t60.length c62)] (by kernel_rfl) ?_
          obtain ⟨t72, hg71, h⟩ := of_bind h
          refine RegI.op (by kernel_rfl) (OpE.call 49 (by kernel_rfl) 19 #[.slice A51 t50.length c52, .slice A61 t60.length c62] (by kernel_rfl) ((charabancref08_Same_19_ok K (fun _ => False) w56  A51 c52 A61 c62 t50 t60 (fun _ hf => hf.elim) (h58.ownSl 3 rfl) (h58.ownSl 4 rfl) hg71).mono ?_))
          rintro _ w68 ⟨rfl, hb69⟩
          refine ⟨_, rfl, ?_⟩
          have h70 := h58.call hb69
          refine RegI.pure 2 [9, 11, 51] [(9, .int .i64 t54), (11, .int .i64 t64), (51, .bool t72)] (by kernel_rfl) ?_
          rcases of_cond h with ⟨hc73, h⟩ | ⟨hc73, h⟩
          · skip
            refine RegI.fix 51 true hc73 (by kernel_rfl) (by kernel_rfl) ?_
            refine RegI.pure 5 [2] [(2, .bool (t54 == t64))] (by kernel_rfl) ?_
            refine RegI.done (by kernel_rfl) ?_
            refine RunsI.ret (.bool (t54 == t64)) (by kernel_rfl) (by kernel_rfl) ?_
            obtain rfl := Option.some.inj h
            exact ⟨rfl, h70.below⟩
          · skip
            refine RegI.fix 51 false hc73 (by kernel_rfl) (by kernel_rfl) ?_
            refine RegI.pure 5 [2] [(2, .bool false)] (by kernel_rfl) ?_
            refine RegI.done (by kernel_rfl) ?_
            refine RunsI.ret (.bool false) (by kernel_rfl) (by kernel_rfl) ?_
            obtain rfl := Option.some.inj h
            exact ⟨rfl, h70.below⟩
        · skip
          refine RegI.fix 46 false hc67 (by kernel_rfl) (by kernel_rfl) ?_
          refine RegI.pure 10 [2] [(2, .bool false)] (by kernel_rfl) ?_
          refine RegI.done (by kernel_rfl) ?_
          refine RunsI.ret (.bool false) (by kernel_rfl) (by kernel_rfl) ?_
          obtain rfl := Option.some.inj h
          exact ⟨rfl, h58.below⟩
      · skip
        refine RegI.fix 41 false hc66 (by kernel_rfl) (by kernel_rfl) ?_
        refine RegI.pure 15 [2] [(2, .bool false)] (by kernel_rfl) ?_
        refine RegI.done (by kernel_rfl) ?_
        refine RunsI.ret (.bool false) (by kernel_rfl) (by kernel_rfl) ?_
        obtain rfl := Option.some.inj h
        exact ⟨rfl, h58.below⟩
end
end Go.Proofs.Ytmcdkmakjjlcnaa.Dec
