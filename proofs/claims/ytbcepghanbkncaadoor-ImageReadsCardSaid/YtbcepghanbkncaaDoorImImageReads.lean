/- The statement's function ImageReads as a plain Lean function; written by wip/eng.py. -/
import Derived.Test.YtbcepghanbkncaaDoorIm4
set_option linter.unusedVariables false
set_option linter.unusedSimpArgs false
set_option maxHeartbeats 4000000
namespace Go.Proofs.YtbcepghanbkncaaDoor.Im
open Go.RowKit Go.Eng
noncomputable def B3 : Code := (Tryd.f3.body).getD .skip
noncomputable def F3 : Fun Tryd.prog := ⟨3, Tryd.f3, B3, 82, Tryd.func3, by kernel_rfl, by kernel_rfl, [], none⟩

/-! ### charabanc/charabanclaw30.ImageReads (function 3) -/
section
def charabanclaw30_ImageReads_3.post (M0 : Nat → Prop) (w0 : World) (r : Bool) : Ending → World → Prop := fun e w => e = .returned (.bool r) ∧ Below w0.heap.size w0 w
def charabanclaw30_ImageReads_3.f (K : Nat) (p0 : ByteArray) (p1 : List Int) : Option Bool := (charabanclaw30_awake_6.f K).bind fun t5 => cond (!t5) (some false) (Let (fun (t8 : Bool) => cond t8 (some true) ((image_Read_7.f K p0).bind fun yt19 => (charabancref30_Read_8.f K p0).bind fun yt45 => (image_Bytes_9.f K p0).bind fun yt71 => (charabancref30_Bytes_10.f K p0).bind fun yt81 => (charabanclaw30_plain_12.f K yt19.1 yt19.2.1 yt19.2.2.1 yt19.2.2.2.1 yt19.2.2.2.2.1).bind fun yt100 => (charabancref30_Same_11.f K yt100.1 yt100.2.1 yt100.2.2.1 yt100.2.2.2.1 yt100.2.2.2.2 yt45.1 yt45.2.1 yt45.2.2.1 yt45.2.2.2.1 yt45.2.2.2.2.1).bind fun t121 => cond t121 (cond (yt19.2.2.2.2.2.1 == yt45.2.2.2.2.2.1) (cond (yt19.2.2.2.2.2.2 == yt45.2.2.2.2.2.2) ((image_Digits_13.f K p1).bind fun t127 => (charabancref30_Digits_14.f K p1).bind fun t129 => cond ((ByteArray.toList t127) == (ByteArray.toList t129)) (cond ((ByteArray.toList (strOf yt71.1)) == (ByteArray.toList (strOf yt81.1))) (some (yt71.2 == yt81.2)) (some false)) (some false)) (some false)) (some false)) (some false))) (fun j11 => cond (decide ((p0.size : Int) > 1500)) (j11 true) (j11 (decide ((p1.length : Int) > 100)))))
set_option maxRecDepth 100000 in
theorem charabanclaw30_ImageReads_3_ok (K : Nat) (M0 : Nat → Prop) (w0 : World) (pA1 : Option Addr) (pc1 : Nat) (p0 : ByteArray) (p1 : List Int) (ho : ∀ b, M0 b → b < w0.heap.size) (hs1 : Sl (Rp.int .u8) w0 M0 (.slice pA1 p1.length pc1) p1) (hG1 : (gl 1 (tab_1.flatMap en_1)).ok w0 M0) (hG4 : (gl 4 (tab_4.flatMap en_4)).ok w0 M0) (hG5 : (gl 5 (tab_5.flatMap en_5)).ok w0 M0) {r : Bool} (h : charabanclaw30_ImageReads_3.f K p0 p1 = some r) :
  Calls Tryd.prog 3 #[.string p0, .slice pA1 p1.length pc1] w0 (charabanclaw30_ImageReads_3.post M0 w0 r) := by
 unfold charabanclaw30_ImageReads_3.f at h
 have h0 : Holds M0 w0 w0 [] := Holds.start ho
 have h01 := h0.addSl (Rp.int .u8) (.slice pA1 p1.length pc1) p1 (hs1.mono (fun _ _ hm => hm.elim id (fun hm => absurd hm (by simp [mines, sl]))))
 have h0g1 := h01.add (gl 1 (tab_1.flatMap en_1)) rfl ⟨hG1.1, fun hm => hG1.2.1 (hm.elim id (fun hm => absurd hm (by simp [mines, sl, gl]))), hG1.2.2⟩
 have h0g4 := h0g1.add (gl 4 (tab_4.flatMap en_4)) rfl ⟨hG4.1, fun hm => hG4.2.1 (hm.elim id (fun hm => absurd hm (by simp [mines, sl, gl]))), hG4.2.2⟩
 have h0g5 := h0g4.add (gl 5 (tab_5.flatMap en_5)) rfl ⟨hG5.1, fun hm => hG5.2.1 (hm.elim id (fun hm => absurd hm (by simp [mines, sl, gl]))), hG5.2.2⟩
 have h0 : Holds M0 w0 w0 [sl (Rp.int .u8) (.slice pA1 p1.length pc1) p1, gl 1 (tab_1.flatMap en_1), gl 4 (tab_4.flatMap en_4), gl 5 (tab_5.flatMap en_5)] := h0g5
 refine calls_of F3 rfl [.string p0, .slice pA1 p1.length pc1] (by kernel_rfl) ?_
 refine RunsI.g 1 [.c 1, .c 2] ?_
 refine RunsI.r ?_
 refine RegI.p 1 [(0, .string p0), (1, .slice pA1 p1.length pc1)] ?_
 refine RegI.d ?_
 refine RunsI.g 1 [.c 3, .c 4] ?_
 refine RunsI.r ?_
 obtain ⟨t5, hg4, h⟩ := of_bind h
 refine RegI.o (OpE.call 16 (by kernel_rfl) 6 #[] (by kernel_rfl) ((charabanclaw30_awake_6_ok K _ w0  h0.old' (h0.get 1 rfl) (h0.get 2 rfl) (h0.get 3 rfl) hg4).mono ?_))
 rintro _ w1 ⟨rfl, hb2⟩
 refine ⟨_, rfl, ?_⟩
 have h3 := h0.call hb2
 refine RegI.p 1 [(0, .string p0), (1, .slice pA1 p1.length pc1), (5, .bool t5)] ?_
 refine RegI.d ?_
 refine RunsI.g 2 [.c 6, .c 7, .c 12] ?_
 refine RunsI.r ?_
 refine RegI.p 2 [(0, .string p0), (1, .slice pA1 p1.length pc1), (18, .bool (!t5))] ?_
 refine RegI.d ?_
 rcases of_cond h with ⟨hc6, h⟩ | ⟨hc6, h⟩
 ·skip
  refine RunsI.f 18 true hc6 ?_
  refine RunsI.b true 8 ?_
  refine RunsI.g 1 [.c 9, .c 10, .c 12] ?_
  refine RunsI.r ?_
  refine RegI.p 1 [(4, .bool false)] ?_
  refine RegI.d ?_
  refine RunsI.t (.bool false) ?_
  obtain rfl := Option.some.inj h
  exact ⟨rfl, h3.below⟩
 ·skip
  refine RunsI.f 18 false hc6 ?_
  refine RunsI.b false 11 ?_
  refine RunsI.g 1 [.c 12] ?_
  refine RunsI.g 2 [.c 14, .c 15, .c 20] ?_
  refine RunsI.r ?_
  refine RegI.p 4 [(0, .string p0), (1, .slice pA1 p1.length pc1), (22, .bool (decide ((p0.size : Int) > 1500)))] ?_
  obtain ⟨j11, hJ12, h⟩ := of_let h
  have hj13 : ∀ (t8 : Bool) (w10 : World), j11 t8 = some r → Holds M0 w0 w10 [sl (Rp.int .u8) (.slice pA1 p1.length pc1) p1, gl 1 (tab_1.flatMap en_1), gl 4 (tab_4.flatMap en_4), gl 5 (tab_5.flatMap en_5)] → RegI F3 14 [.c 15, .c 20] 8 [(0, .string p0), (1, .slice pA1 p1.length pc1), (26, .bool t8)] w10 (charabanclaw30_ImageReads_3.post M0 w0 r) := by
   intro t8 w10 h h9
   rw [hJ12] at h
   clear hJ12
   dsimp only at h
   refine RegI.d ?_
   rcases of_cond h with ⟨hc14, h⟩ | ⟨hc14, h⟩
   ·skip
    refine RunsI.f 26 true hc14 ?_
    refine RunsI.b true 16 ?_
    refine RunsI.g 1 [.c 17, .c 18, .c 20] ?_
    refine RunsI.r ?_
    refine RegI.p 1 [(4, .bool true)] ?_
    refine RegI.d ?_
    refine RunsI.t (.bool true) ?_
    obtain rfl := Option.some.inj h
    exact ⟨rfl, h9.below⟩
   ·skip
    refine RunsI.f 26 false hc14 ?_
    refine RunsI.b false 19 ?_
    refine RunsI.g 1 [.c 20] ?_
    refine RunsI.g 1 [.c 21, .c 22] ?_
    refine RunsI.r ?_
    refine RegI.p 1 [(0, .string p0), (1, .slice pA1 p1.length pc1), (28, .string p0)] ?_
    obtain ⟨⟨t19, t23, t24, t25, t29, t30, t31⟩, hg18, h⟩ := of_bind h
    dsimp only at h
    refine RegI.o (OpE.call 29 (by kernel_rfl) 7 #[.string p0] (by kernel_rfl) ((image_Read_7_ok K _ w10  p0 h9.old' hg18).mono ?_))
    rintro _ w15 ⟨A20, c21, A26, c27, rfl, hr32⟩
    refine ⟨_, rfl, ?_⟩
    have hb16 := hr32.below
    have h17 := h9.join hr32
    refine RegI.p 4 [(0, .string p0), (1, .slice pA1 p1.length pc1), (30, .agg #[.slice A20 t19.length c21, .int .i64 t23, .int .i64 t24, .slice A26 t25.length c27, .int .u16 t29]), (31, .int .i64 t30), (32, .int .i64 t31)] ?_
    refine RegI.o (OpE.box 6 29 [.slice none 0 0, .int .i64 0, .int .i64 0, .slice none 0 0, .int .u16 0] h17 (by kernel_rfl) (by kernel_rfl) ?_)
    intro w33 b34 h35 hb36 hn37
    refine RegI.o (OpE.storeBox 6 29 b34 0 (.agg #[.slice A20 t19.length c21, .int .i64 t23, .int .i64 t24, .slice A26 t25.length c27, .int .u16 t29]) [.slice A20 t19.length c21, .int .i64 t23, .int .i64 t24, .slice A26 t25.length c27, .int .u16 t29] h35 (by kernel_rfl) (by kernel_rfl) rfl (by kernel_rfl) (by kernel_rfl) (by kernel_rfl) ?_)
    intro w38 h39 hk40
    refine RegI.p 2 [(0, .string p0), (1, .slice pA1 p1.length pc1), (6, .pointer (some ⟨b34, 0, none⟩)), (7, .int .i64 t30), (8, .int .i64 t31)] ?_
    refine RegI.d ?_
    refine RunsI.g 1 [.c 23, .c 24] ?_
    refine RunsI.r ?_
    refine RegI.p 1 [(0, .string p0), (1, .slice pA1 p1.length pc1), (6, .pointer (some ⟨b34, 0, none⟩)), (7, .int .i64 t30), (8, .int .i64 t31), (34, .string p0)] ?_
    obtain ⟨⟨t45, t49, t50, t51, t55, t56, t57⟩, hg44, h⟩ := of_bind h
    dsimp only at h
    refine RegI.o (OpE.call 35 (by kernel_rfl) 8 #[.string p0] (by kernel_rfl) ((charabancref30_Read_8_ok K _ w38  p0 h39.old' hg44).mono ?_))
    rintro _ w41 ⟨A46, c47, A52, c53, rfl, hr58⟩
    refine ⟨_, rfl, ?_⟩
    have hb42 := hr58.below
    have h43 := h39.join hr58
    refine RegI.p 4 [(0, .string p0), (1, .slice pA1 p1.length pc1), (6, .pointer (some ⟨b34, 0, none⟩)), (7, .int .i64 t30), (8, .int .i64 t31), (36, .agg #[.slice A46 t45.length c47, .int .i64 t49, .int .i64 t50, .slice A52 t51.length c53, .int .u16 t55]), (37, .int .i64 t56), (38, .int .i64 t57)] ?_
    refine RegI.o (OpE.box 9 37 [.slice none 0 0, .int .i64 0, .int .i64 0, .slice none 0 0, .int .u16 0] h43 (by kernel_rfl) (by kernel_rfl) ?_)
    intro w59 b60 h61 hb62 hn63
    refine RegI.o (OpE.storeBox 9 37 b60 0 (.agg #[.slice A46 t45.length c47, .int .i64 t49, .int .i64 t50, .slice A52 t51.length c53, .int .u16 t55]) [.slice A46 t45.length c47, .int .i64 t49, .int .i64 t50, .slice A52 t51.length c53, .int .u16 t55] h61 (by kernel_rfl) (by kernel_rfl) rfl (by kernel_rfl) (by kernel_rfl) (by kernel_rfl) ?_)
    intro w64 h65 hk66
    refine RegI.p 2 [(0, .string p0), (1, .slice pA1 p1.length pc1), (6, .pointer (some ⟨b34, 0, none⟩)), (7, .int .i64 t30), (8, .int .i64 t31), (9, .pointer (some ⟨b60, 0, none⟩)), (10, .int .i64 t56), (11, .int .i64 t57)] ?_
    refine RegI.d ?_
    refine RunsI.g 1 [.c 25, .c 26] ?_
    refine RunsI.r ?_
    refine RegI.p 1 [(0, .string p0), (1, .slice pA1 p1.length pc1), (6, .pointer (some ⟨b34, 0, none⟩)), (7, .int .i64 t30), (8, .int .i64 t31), (9, .pointer (some ⟨b60, 0, none⟩)), (10, .int .i64 t56), (11, .int .i64 t57), (40, .string p0)] ?_
    obtain ⟨⟨t71, t75⟩, hg70, h⟩ := of_bind h
    dsimp only at h
    refine RegI.o (OpE.call 41 (by kernel_rfl) 9 #[.string p0] (by kernel_rfl) ((image_Bytes_9_ok K _ w64  p0 h65.old' hg70).mono ?_))
    rintro _ w67 ⟨A72, c73, rfl, hr76⟩
    refine ⟨_, rfl, ?_⟩
    have hb68 := hr76.below
    have h69 := h65.join hr76
    refine RegI.p 5 [(0, .string p0), (1, .slice pA1 p1.length pc1), (6, .pointer (some ⟨b34, 0, none⟩)), (7, .int .i64 t30), (8, .int .i64 t31), (9, .pointer (some ⟨b60, 0, none⟩)), (10, .int .i64 t56), (11, .int .i64 t57), (12, .slice A72 t71.length c73), (13, .bool t75)] ?_
    refine RegI.d ?_
    refine RunsI.g 1 [.c 27, .c 28] ?_
    refine RunsI.r ?_
    refine RegI.p 1 [(1, .slice pA1 p1.length pc1), (6, .pointer (some ⟨b34, 0, none⟩)), (7, .int .i64 t30), (8, .int .i64 t31), (9, .pointer (some ⟨b60, 0, none⟩)), (10, .int .i64 t56), (11, .int .i64 t57), (12, .slice A72 t71.length c73), (13, .bool t75), (45, .string p0)] ?_
    obtain ⟨⟨t81, t85⟩, hg80, h⟩ := of_bind h
    dsimp only at h
    refine RegI.o (OpE.call 46 (by kernel_rfl) 10 #[.string p0] (by kernel_rfl) ((charabancref30_Bytes_10_ok K _ w67  p0 h69.old' hg80).mono ?_))
    rintro _ w77 ⟨A82, c83, rfl, hr86⟩
    refine ⟨_, rfl, ?_⟩
    have hb78 := hr86.below
    have h79 := h69.join hr86
    refine RegI.p 5 [(1, .slice pA1 p1.length pc1), (6, .pointer (some ⟨b34, 0, none⟩)), (7, .int .i64 t30), (8, .int .i64 t31), (9, .pointer (some ⟨b60, 0, none⟩)), (10, .int .i64 t56), (11, .int .i64 t57), (12, .slice A72 t71.length c73), (13, .bool t75), (14, .slice A82 t81.length c83), (15, .bool t85)] ?_
    refine RegI.d ?_
    refine RunsI.g 1 [.c 29, .c 30] ?_
    refine RunsI.any 34 (by kernel_rfl) (by kernel_rfl) (by kernel_rfl) (Kp ([] : List Nat) (World.drew w77)) ?_
    have h88 := h79.drew
    generalize World.drew w77 = w87 at h88 ⊢
    have hS89 := Kp.refl ([] : List Nat) w87
    refine AnyE.loadBox 0 49 6 29 b34 0 (.agg #[.slice A20 t19.length c21, .int .i64 t23, .int .i64 t24, .slice A26 t25.length c27, .int .u16 t29]) [] h88 rfl (by kernel_rfl) hS89 rfl rfl (by kernel_rfl) (by kernel_rfl) ?_
    refine AnyE.loadBox 2 51 9 37 b60 0 (.agg #[.slice A46 t45.length c47, .int .i64 t49, .int .i64 t50, .slice A52 t51.length c53, .int .u16 t55]) [] h88 rfl (by kernel_rfl) hS89 rfl rfl (by kernel_rfl) (by kernel_rfl) ?_
    refine AnyE.one 1 (by kernel_rfl) (fun w91 hu92 => ?_)
    have h93 := h88.call hu92
    have hS94 := hS89.up hu92
    obtain ⟨⟨t100, t104, t105, t106, t110⟩, hg99, h⟩ := of_bind h
    dsimp only at h
    have h95 := h93.release 4 rfl
    refine OpE.call 50 (by kernel_rfl) 12 #[.agg #[.slice A20 t19.length c21, .int .i64 t23, .int .i64 t24, .slice A26 t25.length c27, .int .u16 t29]] (by kernel_rfl) ((charabanclaw30_plain_12_ok K _ w91  A20 c21 A26 c27 t19 t23 t24 t25 t29 h95.old' (h95.get 4 rfl) (h95.get 5 rfl) hg99).mono ?_)
    rintro _ w96 ⟨A101, c102, A107, c108, rfl, hr111⟩
    refine ⟨_, rfl, ?_⟩
    have hb97 := hr111.below
    have h98 := h95.join hr111
    have hS112 := hS94.up hb97
    refine ⟨hS112, ?_⟩
    refine AnyE.one 3 (by kernel_rfl) (fun w113 hu114 => ?_)
    have h115 := h98.call hu114
    have hS116 := hS112.up hu114
    obtain ⟨t121, hg120, h⟩ := of_bind h
    refine OpE.call 52 (by kernel_rfl) 11 #[.agg #[.slice A101 t100.length c102, .int .i64 t104, .int .i64 t105, .slice A107 t106.length c108, .int .u16 t110], .agg #[.slice A46 t45.length c47, .int .i64 t49, .int .i64 t50, .slice A52 t51.length c53, .int .u16 t55]] (by kernel_rfl) ((charabancref30_Same_11_ok K (fun _ => False) w113  A101 c102 A107 c108 A46 c47 A52 c53 t100 t104 t105 t106 t110 t45 t49 t50 t51 t55 (fun _ hf => hf.elim) (h115.slAny 12 rfl) (h115.ownSl 13 rfl) (h115.slAny 7 rfl) (h115.slAny 8 rfl) hg120).mono ?_)
    rintro _ w117 ⟨rfl, hb118⟩
    refine ⟨_, rfl, ?_⟩
    have h119 := h115.call hb118
    have hS122 := hS116.up hb118
    refine ⟨hS122, ?_⟩
    refine AnyE.pure 4 53 (.bool t121) (by kernel_rfl) hS122 (fun _ => by kernel_rfl) ?_
    rcases of_cond h with ⟨hc123, h⟩ | ⟨hc123, h⟩
    ·skip
     refine AnyE.fix 53 true hc123 (by kernel_rfl) (by kernel_rfl) ?_
     refine AnyE.pure 5 54 (.int .i64 t30) (by kernel_rfl) hS122 (fun _ => by kernel_rfl) ?_
     refine AnyE.pure 6 55 (.int .i64 t56) (by kernel_rfl) hS122 (fun _ => by kernel_rfl) ?_
     refine AnyE.pure 7 56 (.bool (t30 == t56)) (by kernel_rfl) hS122 (fun _ => by kernel_rfl) ?_
     refine AnyE.pure 8 57 (.bool (t30 == t56)) (by kernel_rfl) hS122 (fun _ => by kernel_rfl) ?_
     refine AnyE.pure 9 58 (.bool (t30 == t56)) (by kernel_rfl) hS122 (fun _ => by kernel_rfl) ?_
     rcases of_cond h with ⟨hc124, h⟩ | ⟨hc124, h⟩
     ·skip
      refine AnyE.fix 58 true hc124 (by kernel_rfl) (by kernel_rfl) ?_
      refine AnyE.pure 10 59 (.int .i64 t31) (by kernel_rfl) hS122 (fun _ => by kernel_rfl) ?_
      refine AnyE.pure 11 60 (.int .i64 t57) (by kernel_rfl) hS122 (fun _ => by kernel_rfl) ?_
      refine AnyE.pure 12 61 (.bool (t31 == t57)) (by kernel_rfl) hS122 (fun _ => by kernel_rfl) ?_
      refine AnyE.pure 13 62 (.bool (t31 == t57)) (by kernel_rfl) hS122 (fun _ => by kernel_rfl) ?_
      refine AnyE.pure 14 63 (.bool (t31 == t57)) (by kernel_rfl) hS122 (fun _ => by kernel_rfl) ?_
      rcases of_cond h with ⟨hc125, h⟩ | ⟨hc125, h⟩
      ·skip
       refine AnyE.fix 63 true hc125 (by kernel_rfl) (by kernel_rfl) ?_
       refine AnyE.pure 15 64 (.slice pA1 p1.length pc1) (by kernel_rfl) hS122 (fun _ => by kernel_rfl) ?_
       obtain ⟨t127, hg126, h⟩ := of_bind h
       refine AnyE.call 16 65 (.string t127) 13 #[.slice pA1 p1.length pc1] (by kernel_rfl) hS122 (fun _ => by kernel_rfl) (fun w hk => image_Digits_13_ok K (fun _ => False) w pA1 pc1 p1 (fun _ hf => hf.elim) (Sl.mono (h88.atI [] rfl hk 0 rfl rfl) (fun _ _ hf => hf.elim)) ⟨(h88.atI [] rfl hk 1 rfl rfl).1, fun hf => hf.elim, (h88.atI [] rfl hk 1 rfl rfl).2.2⟩ ⟨(h88.atI [] rfl hk 2 rfl rfl).1, fun hf => hf.elim, (h88.atI [] rfl hk 2 rfl rfl).2.2⟩ ⟨(h88.atI [] rfl hk 3 rfl rfl).1, fun hf => hf.elim, (h88.atI [] rfl hk 3 rfl rfl).2.2⟩ hg126) ?_
       refine AnyE.pure 17 66 (.slice pA1 p1.length pc1) (by kernel_rfl) hS122 (fun _ => by kernel_rfl) ?_
       obtain ⟨t129, hg128, h⟩ := of_bind h
       refine AnyE.call 18 67 (.string t129) 14 #[.slice pA1 p1.length pc1] (by kernel_rfl) hS122 (fun _ => by kernel_rfl) (fun w hk => charabancref30_Digits_14_ok K (fun _ => False) w pA1 pc1 p1 (fun _ hf => hf.elim) (Sl.mono (h88.atI [] rfl hk 0 rfl rfl) (fun _ _ hf => hf.elim)) hg128) ?_
       refine AnyE.pure 19 68 (.bool ((ByteArray.toList t127) == (ByteArray.toList t129))) (by kernel_rfl) hS122 (fun _ => by kernel_rfl) ?_
       refine AnyE.pure 20 69 (.bool ((ByteArray.toList t127) == (ByteArray.toList t129))) (by kernel_rfl) hS122 (fun _ => by kernel_rfl) ?_
       refine AnyE.pure 21 70 (.bool ((ByteArray.toList t127) == (ByteArray.toList t129))) (by kernel_rfl) hS122 (fun _ => by kernel_rfl) ?_
       rcases of_cond h with ⟨hc130, h⟩ | ⟨hc130, h⟩
       ·skip
        refine AnyE.fix 70 true hc130 (by kernel_rfl) (by kernel_rfl) ?_
        refine AnyE.pure 22 71 (.slice A72 t71.length c73) (by kernel_rfl) hS122 (fun _ => by kernel_rfl) ?_
        refine AnyE.run 23 72 (.string (strOf t71)) (by kernel_rfl) hS122 (fun _ hk => run_toStr (s := 22) (d := 9) (v := .slice A72 t71.length c73) (by kernel_rfl) (by kernel_rfl) (h88.rdOwnI [] rfl hk 10 rfl rfl)) ?_
        refine AnyE.pure 24 73 (.slice A82 t81.length c83) (by kernel_rfl) hS122 (fun _ => by kernel_rfl) ?_
        refine AnyE.run 25 74 (.string (strOf t81)) (by kernel_rfl) hS122 (fun _ hk => run_toStr (s := 22) (d := 9) (v := .slice A82 t81.length c83) (by kernel_rfl) (by kernel_rfl) (h88.rdOwnI [] rfl hk 11 rfl rfl)) ?_
        refine AnyE.pure 26 75 (.bool ((ByteArray.toList (strOf t71)) == (ByteArray.toList (strOf t81)))) (by kernel_rfl) hS122 (fun _ => by kernel_rfl) ?_
        refine AnyE.pure 27 76 (.bool ((ByteArray.toList (strOf t71)) == (ByteArray.toList (strOf t81)))) (by kernel_rfl) hS122 (fun _ => by kernel_rfl) ?_
        refine AnyE.pure 28 77 (.bool ((ByteArray.toList (strOf t71)) == (ByteArray.toList (strOf t81)))) (by kernel_rfl) hS122 (fun _ => by kernel_rfl) ?_
        rcases of_cond h with ⟨hc131, h⟩ | ⟨hc131, h⟩
        ·skip
         refine AnyE.fix 77 true hc131 (by kernel_rfl) (by kernel_rfl) ?_
         refine AnyE.pure 29 78 (.bool t75) (by kernel_rfl) hS122 (fun _ => by kernel_rfl) ?_
         refine AnyE.pure 30 79 (.bool t85) (by kernel_rfl) hS122 (fun _ => by kernel_rfl) ?_
         refine AnyE.pure 31 80 (.bool (t75 == t85)) (by kernel_rfl) hS122 (fun _ => by kernel_rfl) ?_
         refine AnyE.pure 32 81 (.bool (t75 == t85)) (by kernel_rfl) hS122 (fun _ => by kernel_rfl) ?_
         refine AnyE.pure 33 4 (.bool (t75 == t85)) (by kernel_rfl) hS122 (fun _ => by kernel_rfl) ?_
         refine AnyE.done (by kernel_rfl) (fun w132 hu133 => ?_)
         have h134 := h119.call hu133
         refine RunsI.l [4] [(4, .bool (t75 == t85))] ?_
         refine RunsI.t (.bool (t75 == t85)) ?_
         obtain rfl := Option.some.inj h
         exact ⟨rfl, h134.below⟩
        ·skip
         refine AnyE.fix 77 false hc131 (by kernel_rfl) (by kernel_rfl) ?_
         refine AnyE.no 29 78 (by kernel_rfl) hS122 ?_
         refine AnyE.no 30 79 (by kernel_rfl) hS122 ?_
         refine AnyE.no 31 80 (by kernel_rfl) hS122 ?_
         refine AnyE.pure 32 81 (.bool false) (by kernel_rfl) hS122 (fun _ => by kernel_rfl) ?_
         refine AnyE.pure 33 4 (.bool false) (by kernel_rfl) hS122 (fun _ => by kernel_rfl) ?_
         refine AnyE.done (by kernel_rfl) (fun w135 hu136 => ?_)
         have h137 := h119.call hu136
         refine RunsI.l [4] [(4, .bool false)] ?_
         refine RunsI.t (.bool false) ?_
         obtain rfl := Option.some.inj h
         exact ⟨rfl, h137.below⟩
       ·skip
        refine AnyE.fix 70 false hc130 (by kernel_rfl) (by kernel_rfl) ?_
        refine AnyE.no 22 71 (by kernel_rfl) hS122 ?_
        refine AnyE.no 23 72 (by kernel_rfl) hS122 ?_
        refine AnyE.no 24 73 (by kernel_rfl) hS122 ?_
        refine AnyE.no 25 74 (by kernel_rfl) hS122 ?_
        refine AnyE.no 26 75 (by kernel_rfl) hS122 ?_
        refine AnyE.pure 27 76 (.bool false) (by kernel_rfl) hS122 (fun _ => by kernel_rfl) ?_
        refine AnyE.pure 28 77 (.bool false) (by kernel_rfl) hS122 (fun _ => by kernel_rfl) ?_
        refine AnyE.no 29 78 (by kernel_rfl) hS122 ?_
        refine AnyE.no 30 79 (by kernel_rfl) hS122 ?_
        refine AnyE.no 31 80 (by kernel_rfl) hS122 ?_
        refine AnyE.pure 32 81 (.bool false) (by kernel_rfl) hS122 (fun _ => by kernel_rfl) ?_
        refine AnyE.pure 33 4 (.bool false) (by kernel_rfl) hS122 (fun _ => by kernel_rfl) ?_
        refine AnyE.done (by kernel_rfl) (fun w138 hu139 => ?_)
        have h140 := h119.call hu139
        refine RunsI.l [4] [(4, .bool false)] ?_
        refine RunsI.t (.bool false) ?_
        obtain rfl := Option.some.inj h
        exact ⟨rfl, h140.below⟩
      ·skip
       refine AnyE.fix 63 false hc125 (by kernel_rfl) (by kernel_rfl) ?_
       refine AnyE.no 15 64 (by kernel_rfl) hS122 ?_
       refine AnyE.no 16 65 (by kernel_rfl) hS122 ?_
       refine AnyE.no 17 66 (by kernel_rfl) hS122 ?_
       refine AnyE.no 18 67 (by kernel_rfl) hS122 ?_
       refine AnyE.no 19 68 (by kernel_rfl) hS122 ?_
       refine AnyE.pure 20 69 (.bool false) (by kernel_rfl) hS122 (fun _ => by kernel_rfl) ?_
       refine AnyE.pure 21 70 (.bool false) (by kernel_rfl) hS122 (fun _ => by kernel_rfl) ?_
       refine AnyE.no 22 71 (by kernel_rfl) hS122 ?_
       refine AnyE.no 23 72 (by kernel_rfl) hS122 ?_
       refine AnyE.no 24 73 (by kernel_rfl) hS122 ?_
       refine AnyE.no 25 74 (by kernel_rfl) hS122 ?_
       refine AnyE.no 26 75 (by kernel_rfl) hS122 ?_
       refine AnyE.pure 27 76 (.bool false) (by kernel_rfl) hS122 (fun _ => by kernel_rfl) ?_
       refine AnyE.pure 28 77 (.bool false) (by kernel_rfl) hS122 (fun _ => by kernel_rfl) ?_
       refine AnyE.no 29 78 (by kernel_rfl) hS122 ?_
       refine AnyE.no 30 79 (by kernel_rfl) hS122 ?_
       refine AnyE.no 31 80 (by kernel_rfl) hS122 ?_
       refine AnyE.pure 32 81 (.bool false) (by kernel_rfl) hS122 (fun _ => by kernel_rfl) ?_
       refine AnyE.pure 33 4 (.bool false) (by kernel_rfl) hS122 (fun _ => by kernel_rfl) ?_
       refine AnyE.done (by kernel_rfl) (fun w141 hu142 => ?_)
       have h143 := h119.call hu142
       refine RunsI.l [4] [(4, .bool false)] ?_
       refine RunsI.t (.bool false) ?_
       obtain rfl := Option.some.inj h
       exact ⟨rfl, h143.below⟩
     ·skip
      refine AnyE.fix 58 false hc124 (by kernel_rfl) (by kernel_rfl) ?_
      refine AnyE.no 10 59 (by kernel_rfl) hS122 ?_
      refine AnyE.no 11 60 (by kernel_rfl) hS122 ?_
      refine AnyE.no 12 61 (by kernel_rfl) hS122 ?_
      refine AnyE.pure 13 62 (.bool false) (by kernel_rfl) hS122 (fun _ => by kernel_rfl) ?_
      refine AnyE.pure 14 63 (.bool false) (by kernel_rfl) hS122 (fun _ => by kernel_rfl) ?_
      refine AnyE.no 15 64 (by kernel_rfl) hS122 ?_
      refine AnyE.no 16 65 (by kernel_rfl) hS122 ?_
      refine AnyE.no 17 66 (by kernel_rfl) hS122 ?_
      refine AnyE.no 18 67 (by kernel_rfl) hS122 ?_
      refine AnyE.no 19 68 (by kernel_rfl) hS122 ?_
      refine AnyE.pure 20 69 (.bool false) (by kernel_rfl) hS122 (fun _ => by kernel_rfl) ?_
      refine AnyE.pure 21 70 (.bool false) (by kernel_rfl) hS122 (fun _ => by kernel_rfl) ?_
      refine AnyE.no 22 71 (by kernel_rfl) hS122 ?_
      refine AnyE.no 23 72 (by kernel_rfl) hS122 ?_
      refine AnyE.no 24 73 (by kernel_rfl) hS122 ?_
      refine AnyE.no 25 74 (by kernel_rfl) hS122 ?_
      refine AnyE.no 26 75 (by kernel_rfl) hS122 ?_
      refine AnyE.pure 27 76 (.bool false) (by kernel_rfl) hS122 (fun _ => by kernel_rfl) ?_
      refine AnyE.pure 28 77 (.bool false) (by kernel_rfl) hS122 (fun _ => by kernel_rfl) ?_
      refine AnyE.no 29 78 (by kernel_rfl) hS122 ?_
      refine AnyE.no 30 79 (by kernel_rfl) hS122 ?_
      refine AnyE.no 31 80 (by kernel_rfl) hS122 ?_
      refine AnyE.pure 32 81 (.bool false) (by kernel_rfl) hS122 (fun _ => by kernel_rfl) ?_
      refine AnyE.pure 33 4 (.bool false) (by kernel_rfl) hS122 (fun _ => by kernel_rfl) ?_
      refine AnyE.done (by kernel_rfl) (fun w144 hu145 => ?_)
      have h146 := h119.call hu145
      refine RunsI.l [4] [(4, .bool false)] ?_
      refine RunsI.t (.bool false) ?_
      obtain rfl := Option.some.inj h
      exact ⟨rfl, h146.below⟩
    ·skip
     refine AnyE.fix 53 false hc123 (by kernel_rfl) (by kernel_rfl) ?_
     refine AnyE.no 5 54 (by kernel_rfl) hS122 ?_
     refine AnyE.no 6 55 (by kernel_rfl) hS122 ?_
     refine AnyE.no 7 56 (by kernel_rfl) hS122 ?_
     refine AnyE.pure 8 57 (.bool false) (by kernel_rfl) hS122 (fun _ => by kernel_rfl) ?_
     refine AnyE.pure 9 58 (.bool false) (by kernel_rfl) hS122 (fun _ => by kernel_rfl) ?_
     refine AnyE.no 10 59 (by kernel_rfl) hS122 ?_
     refine AnyE.no 11 60 (by kernel_rfl) hS122 ?_
     refine AnyE.no 12 61 (by kernel_rfl) hS122 ?_
     refine AnyE.pure 13 62 (.bool false) (by kernel_rfl) hS122 (fun _ => by kernel_rfl) ?_
     refine AnyE.pure 14 63 (.bool false) (by kernel_rfl) hS122 (fun _ => by kernel_rfl) ?_
     refine AnyE.no 15 64 (by kernel_rfl) hS122 ?_
     refine AnyE.no 16 65 (by kernel_rfl) hS122 ?_
     refine AnyE.no 17 66 (by kernel_rfl) hS122 ?_
     refine AnyE.no 18 67 (by kernel_rfl) hS122 ?_
     refine AnyE.no 19 68 (by kernel_rfl) hS122 ?_
     refine AnyE.pure 20 69 (.bool false) (by kernel_rfl) hS122 (fun _ => by kernel_rfl) ?_
     refine AnyE.pure 21 70 (.bool false) (by kernel_rfl) hS122 (fun _ => by kernel_rfl) ?_
     refine AnyE.no 22 71 (by kernel_rfl) hS122 ?_
     refine AnyE.no 23 72 (by kernel_rfl) hS122 ?_
     refine AnyE.no 24 73 (by kernel_rfl) hS122 ?_
     refine AnyE.no 25 74 (by kernel_rfl) hS122 ?_
     refine AnyE.no 26 75 (by kernel_rfl) hS122 ?_
     refine AnyE.pure 27 76 (.bool false) (by kernel_rfl) hS122 (fun _ => by kernel_rfl) ?_
     refine AnyE.pure 28 77 (.bool false) (by kernel_rfl) hS122 (fun _ => by kernel_rfl) ?_
     refine AnyE.no 29 78 (by kernel_rfl) hS122 ?_
     refine AnyE.no 30 79 (by kernel_rfl) hS122 ?_
     refine AnyE.no 31 80 (by kernel_rfl) hS122 ?_
     refine AnyE.pure 32 81 (.bool false) (by kernel_rfl) hS122 (fun _ => by kernel_rfl) ?_
     refine AnyE.pure 33 4 (.bool false) (by kernel_rfl) hS122 (fun _ => by kernel_rfl) ?_
     refine AnyE.done (by kernel_rfl) (fun w147 hu148 => ?_)
     have h149 := h119.call hu148
     refine RunsI.l [4] [(4, .bool false)] ?_
     refine RunsI.t (.bool false) ?_
     obtain rfl := Option.some.inj h
     exact ⟨rfl, h149.below⟩
  clear hJ12
  rcases of_cond h with ⟨hc7, h⟩ | ⟨hc7, h⟩
  ·skip
   refine RegI.f 22 true hc7 ?_
   refine RegI.p 4 [(0, .string p0), (1, .slice pA1 p1.length pc1), (26, .bool true)] ?_
   refine RegI.l [0, 1, 26] [(0, .string p0), (1, .slice pA1 p1.length pc1), (26, .bool true)] ?_
   exact hj13 true w1 h (h3.pick [0, 1, 2, 3] (by decide))
  ·skip
   refine RegI.f 22 false hc7 ?_
   refine RegI.p 4 [(0, .string p0), (1, .slice pA1 p1.length pc1), (26, .bool (decide ((p1.length : Int) > 100)))] ?_
   refine RegI.l [0, 1, 26] [(0, .string p0), (1, .slice pA1 p1.length pc1), (26, .bool (decide ((p1.length : Int) > 100)))] ?_
   exact hj13 (decide ((p1.length : Int) > 100)) w1 h (h3.pick [0, 1, 2, 3] (by decide))
end
end Go.Proofs.YtbcepghanbkncaaDoor.Im
