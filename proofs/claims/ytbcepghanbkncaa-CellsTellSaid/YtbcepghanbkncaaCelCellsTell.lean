/- The statement's function CellsTell as a plain Lean function; written by wip/eng.py. -/
import Derived.Test.YtbcepghanbkncaaCel2
set_option linter.unusedVariables false
set_option linter.unusedSimpArgs false
set_option maxHeartbeats 4000000
namespace Go.Proofs.Ytbcepghanbkncaa.Cel
open Go.RowKit Go.Eng
noncomputable def B3 : Code := (Try.f3.body).getD .skip
noncomputable def F3 : Fun Try.prog := ⟨3, Try.f3, B3, 46, Try.func3, by kernel_rfl, by kernel_rfl, [], none⟩

/-! ### charabanc/charabanclaw14.CellsTell (function 3) -/
section
def charabanclaw14_CellsTell_3.post (M0 : Nat → Prop) (w0 : World) (r : Bool) : Ending → World → Prop := fun e w => e = .returned (.bool r) ∧ Below w0.heap.size w0 w
def charabanclaw14_CellsTell_3.f (K : Nat) (p0 : List (Int × Int)) (p1 : Int) (p2 : Int) : Option Bool := (charabanclaw14_awake_7.f K).bind fun t5 => cond (!t5) (some false) (cond (decide ((p0.length : Int) > 60)) (some true) ((cells_Check_8.f K p0).bind fun t12 => (charabancref14_Check_9.f K p0).bind fun t17 => cond (t12 == t17) ((cells_Make_11.f K p0).bind fun t23 => (charabancref14_Make_12.f K p0).bind fun t32 => (charabancref14_Same_10.f K t23 t32).bind fun t41 => cond t41 ((cells_Get_13.f K p0 p1).bind fun t47 => (charabancref14_Get_14.f K p0 p1).bind fun t52 => cond (t47 == t52) ((cells_Put_15.f K p0 p1 p2).bind fun t58 => (charabancref14_Put_16.f K p0 p1 p2).bind fun t67 => (charabancref14_Same_10.f K t58 t67).bind fun t76 => some t76) (some false)) (some false)) (some false)))
set_option maxRecDepth 100000 in
theorem charabanclaw14_CellsTell_3_ok (K : Nat) (M0 : Nat → Prop) (w0 : World) (pA0 : Option Addr) (pc0 : Nat) (p0 : List (Int × Int)) (p1 : Int) (p2 : Int) (ho : ∀ b, M0 b → b < w0.heap.size) (hs0 : Sl (Rp.pair (Rp.int .u16) (Rp.int .u8)) w0 M0 (.slice pA0 p0.length pc0) p0) {r : Bool} (h : charabanclaw14_CellsTell_3.f K p0 p1 p2 = some r) :
  Calls Try.prog 3 #[.slice pA0 p0.length pc0, .int .u16 p1, .int .u8 p2] w0 (charabanclaw14_CellsTell_3.post M0 w0 r) := by
 unfold charabanclaw14_CellsTell_3.f at h
 have h0 : Holds M0 w0 w0 [] := Holds.start ho
 have h00 := h0.addSl (Rp.pair (Rp.int .u16) (Rp.int .u8)) (.slice pA0 p0.length pc0) p0 (hs0.mono (fun _ _ hm => hm.elim id (fun hm => absurd hm (by simp [mines, sl]))))
 have h0 : Holds M0 w0 w0 [sl (Rp.pair (Rp.int .u16) (Rp.int .u8)) (.slice pA0 p0.length pc0) p0] := h00
 refine calls_of F3 rfl [.slice pA0 p0.length pc0, .int .u16 p1, .int .u8 p2] (by kernel_rfl) ?_
 refine RunsI.g 1 [.c 1, .c 2] ?_
 refine RunsI.r ?_
 refine RegI.p 1 [(0, .slice pA0 p0.length pc0), (1, .int .u16 p1), (2, .int .u8 p2)] ?_
 refine RegI.d ?_
 refine RunsI.g 1 [.c 3, .c 4] ?_
 refine RunsI.r ?_
 obtain ⟨t5, hg4, h⟩ := of_bind h
 refine RegI.o (OpE.call 8 (by kernel_rfl) 7 #[] (by kernel_rfl) ((charabanclaw14_awake_7_ok K _ w0  h0.old' hg4).mono ?_))
 rintro _ w1 ⟨rfl, hb2⟩
 refine ⟨_, rfl, ?_⟩
 have h3 := h0.call hb2
 refine RegI.p 1 [(0, .slice pA0 p0.length pc0), (1, .int .u16 p1), (2, .int .u8 p2), (7, .bool t5)] ?_
 refine RegI.d ?_
 refine RunsI.g 2 [.c 6, .c 7, .c 12] ?_
 refine RunsI.r ?_
 refine RegI.p 2 [(0, .slice pA0 p0.length pc0), (1, .int .u16 p1), (2, .int .u8 p2), (10, .bool (!t5))] ?_
 refine RegI.d ?_
 rcases of_cond h with ⟨hc6, h⟩ | ⟨hc6, h⟩
 ·skip
  refine RunsI.f 10 true hc6 ?_
  refine RunsI.b true 8 ?_
  refine RunsI.g 1 [.c 9, .c 10, .c 12] ?_
  refine RunsI.r ?_
  refine RegI.p 1 [(6, .bool false)] ?_
  refine RegI.d ?_
  refine RunsI.t (.bool false) ?_
  obtain rfl := Option.some.inj h
  exact ⟨rfl, h3.below⟩
 ·skip
  refine RunsI.f 10 false hc6 ?_
  refine RunsI.b false 11 ?_
  refine RunsI.g 1 [.c 12] ?_
  refine RunsI.g 2 [.c 14, .c 15, .c 20] ?_
  refine RunsI.r ?_
  refine RegI.p 3 [(0, .slice pA0 p0.length pc0), (1, .int .u16 p1), (2, .int .u8 p2), (13, .bool (decide ((p0.length : Int) > 60)))] ?_
  refine RegI.d ?_
  rcases of_cond h with ⟨hc7, h⟩ | ⟨hc7, h⟩
  ·skip
   refine RunsI.f 13 true hc7 ?_
   refine RunsI.b true 16 ?_
   refine RunsI.g 1 [.c 17, .c 18, .c 20] ?_
   refine RunsI.r ?_
   refine RegI.p 1 [(6, .bool true)] ?_
   refine RegI.d ?_
   refine RunsI.t (.bool true) ?_
   obtain rfl := Option.some.inj h
   exact ⟨rfl, h3.below⟩
  ·skip
   refine RunsI.f 13 false hc7 ?_
   refine RunsI.b false 19 ?_
   refine RunsI.g 1 [.c 20] ?_
   refine RunsI.g 1 [.c 21, .c 22] ?_
   refine RunsI.r ?_
   refine RegI.p 1 [(0, .slice pA0 p0.length pc0), (1, .int .u16 p1), (2, .int .u8 p2), (14, .slice pA0 p0.length pc0)] ?_
   obtain ⟨t12, hg11, h⟩ := of_bind h
   refine RegI.o (OpE.call 15 (by kernel_rfl) 8 #[.slice pA0 p0.length pc0] (by kernel_rfl) ((cells_Check_8_ok K _ w1  pA0 pc0 p0 h3.old' (h3.get 0 rfl) hg11).mono ?_))
   rintro _ w8 ⟨rfl, hb9⟩
   refine ⟨_, rfl, ?_⟩
   have h10 := h3.call hb9
   refine RegI.p 1 [(0, .slice pA0 p0.length pc0), (1, .int .u16 p1), (2, .int .u8 p2), (15, .int .i64 t12), (16, .slice pA0 p0.length pc0)] ?_
   obtain ⟨t17, hg16, h⟩ := of_bind h
   refine RegI.o (OpE.call 17 (by kernel_rfl) 9 #[.slice pA0 p0.length pc0] (by kernel_rfl) ((charabancref14_Check_9_ok K _ w8  pA0 pc0 p0 h10.old' (h10.get 0 rfl) hg16).mono ?_))
   rintro _ w13 ⟨rfl, hb14⟩
   refine ⟨_, rfl, ?_⟩
   have h15 := h10.call hb14
   refine RegI.p 2 [(0, .slice pA0 p0.length pc0), (1, .int .u16 p1), (2, .int .u8 p2), (19, .bool (t12 == t17))] ?_
   rcases of_cond h with ⟨hc18, h⟩ | ⟨hc18, h⟩
   ·skip
    refine RegI.f 19 true hc18 ?_
    refine RegI.p 1 [(0, .slice pA0 p0.length pc0), (1, .int .u16 p1), (2, .int .u8 p2), (19, .bool true), (20, .slice pA0 p0.length pc0)] ?_
    obtain ⟨t23, hg22, h⟩ := of_bind h
    refine RegI.o (OpE.call 21 (by kernel_rfl) 11 #[.slice pA0 p0.length pc0] (by kernel_rfl) ((cells_Make_11_ok K _ w13  pA0 pc0 p0 h15.old' (h15.get 0 rfl) hg22).mono ?_))
    rintro _ w19 ⟨A24, c25, rfl, hr27⟩
    refine ⟨_, rfl, ?_⟩
    have hb20 := hr27.below
    have h21 := h15.join hr27
    refine RegI.p 1 [(0, .slice pA0 p0.length pc0), (1, .int .u16 p1), (2, .int .u8 p2), (19, .bool true), (21, .slice A24 t23.length c25), (22, .slice pA0 p0.length pc0)] ?_
    obtain ⟨t32, hg31, h⟩ := of_bind h
    refine RegI.o (OpE.call 23 (by kernel_rfl) 12 #[.slice pA0 p0.length pc0] (by kernel_rfl) ((charabancref14_Make_12_ok K _ w19  pA0 pc0 p0 h21.old' (h21.get 0 rfl) hg31).mono ?_))
    rintro _ w28 ⟨A33, c34, rfl, hr36⟩
    refine ⟨_, rfl, ?_⟩
    have hb29 := hr36.below
    have h30 := h21.join hr36
    obtain ⟨t41, hg40, h⟩ := of_bind h
    refine RegI.o (OpE.call 24 (by kernel_rfl) 10 #[.slice A24 t23.length c25, .slice A33 t32.length c34] (by kernel_rfl) ((charabancref14_Same_10_ok K (fun _ => False) w28  A24 c25 A33 c34 t23 t32 (fun _ hf => hf.elim) (h30.slAny 1 rfl) (h30.ownSl 2 rfl) hg40).mono ?_))
    rintro _ w37 ⟨rfl, hb38⟩
    refine ⟨_, rfl, ?_⟩
    have h39 := h30.call hb38
    refine RegI.p 2 [(0, .slice pA0 p0.length pc0), (1, .int .u16 p1), (2, .int .u8 p2), (26, .bool t41)] ?_
    rcases of_cond h with ⟨hc42, h⟩ | ⟨hc42, h⟩
    ·skip
     refine RegI.f 26 true hc42 ?_
     refine RegI.p 2 [(0, .slice pA0 p0.length pc0), (1, .int .u16 p1), (2, .int .u8 p2), (26, .bool true), (27, .slice pA0 p0.length pc0), (28, .int .u16 p1)] ?_
     obtain ⟨t47, hg46, h⟩ := of_bind h
     refine RegI.o (OpE.call 29 (by kernel_rfl) 13 #[.slice pA0 p0.length pc0, .int .u16 p1] (by kernel_rfl) ((cells_Get_13_ok K _ w37  pA0 pc0 p0 p1 h39.old' (h39.get 0 rfl) hg46).mono ?_))
     rintro _ w43 ⟨rfl, hb44⟩
     refine ⟨_, rfl, ?_⟩
     have h45 := h39.call hb44
     refine RegI.p 2 [(0, .slice pA0 p0.length pc0), (1, .int .u16 p1), (2, .int .u8 p2), (26, .bool true), (29, .int .u8 t47), (30, .slice pA0 p0.length pc0), (31, .int .u16 p1)] ?_
     obtain ⟨t52, hg51, h⟩ := of_bind h
     refine RegI.o (OpE.call 32 (by kernel_rfl) 14 #[.slice pA0 p0.length pc0, .int .u16 p1] (by kernel_rfl) ((charabancref14_Get_14_ok K _ w43  pA0 pc0 p0 p1 h45.old' (h45.get 0 rfl) hg51).mono ?_))
     rintro _ w48 ⟨rfl, hb49⟩
     refine ⟨_, rfl, ?_⟩
     have h50 := h45.call hb49
     refine RegI.p 3 [(0, .slice pA0 p0.length pc0), (1, .int .u16 p1), (2, .int .u8 p2), (35, .bool (t47 == t52))] ?_
     rcases of_cond h with ⟨hc53, h⟩ | ⟨hc53, h⟩
     ·skip
      refine RegI.f 35 true hc53 ?_
      refine RegI.p 3 [(0, .slice pA0 p0.length pc0), (1, .int .u16 p1), (2, .int .u8 p2), (35, .bool true), (36, .slice pA0 p0.length pc0), (37, .int .u16 p1), (38, .int .u8 p2)] ?_
      obtain ⟨t58, hg57, h⟩ := of_bind h
      refine RegI.o (OpE.call 39 (by kernel_rfl) 15 #[.slice pA0 p0.length pc0, .int .u16 p1, .int .u8 p2] (by kernel_rfl) ((cells_Put_15_ok K _ w48  pA0 pc0 p0 p1 p2 h50.old' (h50.get 0 rfl) hg57).mono ?_))
      rintro _ w54 ⟨A59, c60, rfl, hr62⟩
      refine ⟨_, rfl, ?_⟩
      have hb55 := hr62.below
      have h56 := h50.join hr62
      refine RegI.p 3 [(35, .bool true), (39, .slice A59 t58.length c60), (40, .slice pA0 p0.length pc0), (41, .int .u16 p1), (42, .int .u8 p2)] ?_
      obtain ⟨t67, hg66, h⟩ := of_bind h
      refine RegI.o (OpE.call 43 (by kernel_rfl) 16 #[.slice pA0 p0.length pc0, .int .u16 p1, .int .u8 p2] (by kernel_rfl) ((charabancref14_Put_16_ok K _ w54  pA0 pc0 p0 p1 p2 h56.old' (h56.get 0 rfl) hg66).mono ?_))
      rintro _ w63 ⟨A68, c69, rfl, hr71⟩
      refine ⟨_, rfl, ?_⟩
      have hb64 := hr71.below
      have h65 := h56.join hr71
      obtain ⟨t76, hg75, h⟩ := of_bind h
      refine RegI.o (OpE.call 44 (by kernel_rfl) 10 #[.slice A59 t58.length c60, .slice A68 t67.length c69] (by kernel_rfl) ((charabancref14_Same_10_ok K (fun _ => False) w63  A59 c60 A68 c69 t58 t67 (fun _ hf => hf.elim) (h65.slAny 3 rfl) (h65.ownSl 4 rfl) hg75).mono ?_))
      rintro _ w72 ⟨rfl, hb73⟩
      refine ⟨_, rfl, ?_⟩
      have h74 := h65.call hb73
      refine RegI.p 2 [(6, .bool t76)] ?_
      refine RegI.d ?_
      refine RunsI.t (.bool t76) ?_
      obtain rfl := Option.some.inj h
      exact ⟨rfl, h74.below⟩
     ·skip
      refine RegI.f 35 false hc53 ?_
      refine RegI.p 11 [(6, .bool false)] ?_
      refine RegI.d ?_
      refine RunsI.t (.bool false) ?_
      obtain rfl := Option.some.inj h
      exact ⟨rfl, h50.below⟩
    ·skip
     refine RegI.f 26 false hc42 ?_
     refine RegI.p 20 [(6, .bool false)] ?_
     refine RegI.d ?_
     refine RunsI.t (.bool false) ?_
     obtain rfl := Option.some.inj h
     exact ⟨rfl, h39.below⟩
   ·skip
    refine RegI.f 19 false hc18 ?_
    refine RegI.p 27 [(6, .bool false)] ?_
    refine RegI.d ?_
    refine RunsI.t (.bool false) ?_
    obtain rfl := Option.some.inj h
    exact ⟨rfl, h15.below⟩
end
end Go.Proofs.Ytbcepghanbkncaa.Cel
