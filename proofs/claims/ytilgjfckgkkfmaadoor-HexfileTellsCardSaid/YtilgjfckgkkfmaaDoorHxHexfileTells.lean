/- The statement's function HexfileTells as a plain Lean function; written by wip/eng.py. -/
import Derived.Test.YtilgjfckgkkfmaaDoorHx3
set_option linter.unusedVariables false
set_option linter.unusedSimpArgs false
set_option maxHeartbeats 4000000
namespace Go.Proofs.YtilgjfckgkkfmaaDoor.Hx
open Go.RowKit Go.Eng
noncomputable def B4 : Code := (Tryd.f4.body).getD .skip
noncomputable def F4 : Fun Tryd.prog := ⟨4, Tryd.f4, B4, 55, Tryd.func4, by kernel_rfl, by kernel_rfl, [], none⟩

/-! ### charabanc/charabanclaw33.HexfileTells (function 4) -/
section
def charabanclaw33_HexfileTells_4.post (M0 : Nat → Prop) (w0 : World) (r : Bool) : Ending → World → Prop := fun e w => e = .returned (.bool r) ∧ Below w0.heap.size w0 w
def charabanclaw33_HexfileTells_4.f (K : Nat) (p0 : List (Int × Int)) (p1 : ByteArray) : Option Bool := (charabanclaw33_awake_10.f K).bind fun t5 => cond (!t5) (some false) (Let (fun (t8 : Bool) => cond t8 (some true) ((hexfile_Read_19.f K p1).bind fun yt19 => (charabancref33_Read_20.f K p1).bind fun yt30 => (hexfile_Show_21.f K p0).bind fun t41 => (charabancref33_Show_22.f K p0).bind fun t46 => cond ((ByteArray.toList t41) == (ByteArray.toList t46)) ((charabancref14_Same_23.f K yt19.1 yt30.1).bind fun t52 => cond t52 (cond (yt19.2.1 == yt30.2.1) (some (yt19.2.2 == yt30.2.2)) (some false)) (some false)) (some false))) (fun j11 => cond (decide ((p0.length : Int) > 60)) (j11 true) (j11 (decide ((p1.size : Int) > 700)))))
set_option maxRecDepth 100000 in
theorem charabanclaw33_HexfileTells_4_ok (K : Nat) (M0 : Nat → Prop) (w0 : World) (pA0 : Option Addr) (pc0 : Nat) (p0 : List (Int × Int)) (p1 : ByteArray) (ho : ∀ b, M0 b → b < w0.heap.size) (hs0 : Sl (Rp.pair (Rp.int .u16) (Rp.int .u8)) w0 M0 (.slice pA0 p0.length pc0) p0) {r : Bool} (h : charabanclaw33_HexfileTells_4.f K p0 p1 = some r) :
  Calls Tryd.prog 4 #[.slice pA0 p0.length pc0, .string p1] w0 (charabanclaw33_HexfileTells_4.post M0 w0 r) := by
 unfold charabanclaw33_HexfileTells_4.f at h
 have h0 : Holds M0 w0 w0 [] := Holds.start ho
 have h00 := h0.addSl (Rp.pair (Rp.int .u16) (Rp.int .u8)) (.slice pA0 p0.length pc0) p0 (hs0.mono (fun _ _ hm => hm.elim id (fun hm => absurd hm (by simp [mines, sl]))))
 have h0 : Holds M0 w0 w0 [sl (Rp.pair (Rp.int .u16) (Rp.int .u8)) (.slice pA0 p0.length pc0) p0] := h00
 refine calls_of F4 rfl [.slice pA0 p0.length pc0, .string p1] (by kernel_rfl) ?_
 refine RunsI.g 1 [.c 1, .c 2] ?_
 refine RunsI.r ?_
 refine RegI.p 1 [(0, .slice pA0 p0.length pc0), (1, .string p1)] ?_
 refine RegI.d ?_
 refine RunsI.g 1 [.c 3, .c 4] ?_
 refine RunsI.r ?_
 obtain ⟨t5, hg4, h⟩ := of_bind h
 refine RegI.o (OpE.call 12 (by kernel_rfl) 10 #[] (by kernel_rfl) ((charabanclaw33_awake_10_ok K _ w0  h0.old' hg4).mono ?_))
 rintro _ w1 ⟨rfl, hb2⟩
 refine ⟨_, rfl, ?_⟩
 have h3 := h0.call hb2
 refine RegI.p 1 [(0, .slice pA0 p0.length pc0), (1, .string p1), (5, .bool t5)] ?_
 refine RegI.d ?_
 refine RunsI.g 2 [.c 6, .c 7, .c 12] ?_
 refine RunsI.r ?_
 refine RegI.p 2 [(0, .slice pA0 p0.length pc0), (1, .string p1), (14, .bool (!t5))] ?_
 refine RegI.d ?_
 rcases of_cond h with ⟨hc6, h⟩ | ⟨hc6, h⟩
 ·skip
  refine RunsI.f 14 true hc6 ?_
  refine RunsI.b true 8 ?_
  refine RunsI.g 1 [.c 9, .c 10, .c 12] ?_
  refine RunsI.r ?_
  refine RegI.p 1 [(4, .bool false)] ?_
  refine RegI.d ?_
  refine RunsI.t (.bool false) ?_
  obtain rfl := Option.some.inj h
  exact ⟨rfl, h3.below⟩
 ·skip
  refine RunsI.f 14 false hc6 ?_
  refine RunsI.b false 11 ?_
  refine RunsI.g 1 [.c 12] ?_
  refine RunsI.g 2 [.c 14, .c 15, .c 20] ?_
  refine RunsI.r ?_
  refine RegI.p 4 [(0, .slice pA0 p0.length pc0), (1, .string p1), (18, .bool (decide ((p0.length : Int) > 60)))] ?_
  obtain ⟨j11, hJ12, h⟩ := of_let h
  have hj13 : ∀ (t8 : Bool) (w10 : World), j11 t8 = some r → Holds M0 w0 w10 [sl (Rp.pair (Rp.int .u16) (Rp.int .u8)) (.slice pA0 p0.length pc0) p0] → RegI F4 14 [.c 15, .c 20] 8 [(0, .slice pA0 p0.length pc0), (1, .string p1), (22, .bool t8)] w10 (charabanclaw33_HexfileTells_4.post M0 w0 r) := by
   intro t8 w10 h h9
   rw [hJ12] at h
   clear hJ12
   dsimp only at h
   refine RegI.d ?_
   rcases of_cond h with ⟨hc14, h⟩ | ⟨hc14, h⟩
   ·skip
    refine RunsI.f 22 true hc14 ?_
    refine RunsI.b true 16 ?_
    refine RunsI.g 1 [.c 17, .c 18, .c 20] ?_
    refine RunsI.r ?_
    refine RegI.p 1 [(4, .bool true)] ?_
    refine RegI.d ?_
    refine RunsI.t (.bool true) ?_
    obtain rfl := Option.some.inj h
    exact ⟨rfl, h9.below⟩
   ·skip
    refine RunsI.f 22 false hc14 ?_
    refine RunsI.b false 19 ?_
    refine RunsI.g 1 [.c 20] ?_
    refine RunsI.g 1 [.c 21, .c 22] ?_
    refine RunsI.r ?_
    refine RegI.p 1 [(0, .slice pA0 p0.length pc0), (1, .string p1), (24, .string p1)] ?_
    obtain ⟨⟨t19, t23, t24⟩, hg18, h⟩ := of_bind h
    dsimp only at h
    refine RegI.o (OpE.call 25 (by kernel_rfl) 19 #[.string p1] (by kernel_rfl) ((hexfile_Read_19_ok K _ w10  p1 h9.old' hg18).mono ?_))
    rintro _ w15 ⟨A20, c21, rfl, hr25⟩
    refine ⟨_, rfl, ?_⟩
    have hb16 := hr25.below
    have h17 := h9.join hr25
    refine RegI.p 7 [(0, .slice pA0 p0.length pc0), (1, .string p1), (6, .slice A20 t19.length c21), (7, .int .i64 t23), (8, .int .i64 t24)] ?_
    refine RegI.d ?_
    refine RunsI.g 1 [.c 23, .c 24] ?_
    refine RunsI.r ?_
    refine RegI.p 1 [(0, .slice pA0 p0.length pc0), (6, .slice A20 t19.length c21), (7, .int .i64 t23), (8, .int .i64 t24), (30, .string p1)] ?_
    obtain ⟨⟨t30, t34, t35⟩, hg29, h⟩ := of_bind h
    dsimp only at h
    refine RegI.o (OpE.call 31 (by kernel_rfl) 20 #[.string p1] (by kernel_rfl) ((charabancref33_Read_20_ok K _ w15  p1 h17.old' hg29).mono ?_))
    rintro _ w26 ⟨A31, c32, rfl, hr36⟩
    refine ⟨_, rfl, ?_⟩
    have hb27 := hr36.below
    have h28 := h17.join hr36
    refine RegI.p 7 [(0, .slice pA0 p0.length pc0), (6, .slice A20 t19.length c21), (7, .int .i64 t23), (8, .int .i64 t24), (9, .slice A31 t30.length c32), (10, .int .i64 t34), (11, .int .i64 t35)] ?_
    refine RegI.d ?_
    refine RunsI.g 1 [.c 25, .c 26] ?_
    refine RunsI.r ?_
    refine RegI.p 1 [(0, .slice pA0 p0.length pc0), (6, .slice A20 t19.length c21), (7, .int .i64 t23), (8, .int .i64 t24), (9, .slice A31 t30.length c32), (10, .int .i64 t34), (11, .int .i64 t35), (35, .slice pA0 p0.length pc0)] ?_
    obtain ⟨t41, hg40, h⟩ := of_bind h
    refine RegI.o (OpE.call 36 (by kernel_rfl) 21 #[.slice pA0 p0.length pc0] (by kernel_rfl) ((hexfile_Show_21_ok K _ w26  pA0 pc0 p0 h28.old' (h28.get 0 rfl) hg40).mono ?_))
    rintro _ w37 ⟨rfl, hb38⟩
    refine ⟨_, rfl, ?_⟩
    have h39 := h28.call hb38
    refine RegI.p 1 [(6, .slice A20 t19.length c21), (7, .int .i64 t23), (8, .int .i64 t24), (9, .slice A31 t30.length c32), (10, .int .i64 t34), (11, .int .i64 t35), (36, .string t41), (37, .slice pA0 p0.length pc0)] ?_
    obtain ⟨t46, hg45, h⟩ := of_bind h
    refine RegI.o (OpE.call 38 (by kernel_rfl) 22 #[.slice pA0 p0.length pc0] (by kernel_rfl) ((charabancref33_Show_22_ok K _ w37  pA0 pc0 p0 h39.old' (h39.get 0 rfl) hg45).mono ?_))
    rintro _ w42 ⟨rfl, hb43⟩
    refine ⟨_, rfl, ?_⟩
    have h44 := h39.call hb43
    refine RegI.p 2 [(6, .slice A20 t19.length c21), (7, .int .i64 t23), (8, .int .i64 t24), (9, .slice A31 t30.length c32), (10, .int .i64 t34), (11, .int .i64 t35), (40, .bool ((ByteArray.toList t41) == (ByteArray.toList t46)))] ?_
    rcases of_cond h with ⟨hc47, h⟩ | ⟨hc47, h⟩
    ·skip
     refine RegI.f 40 true hc47 ?_
     refine RegI.p 2 [(7, .int .i64 t23), (8, .int .i64 t24), (10, .int .i64 t34), (11, .int .i64 t35), (40, .bool true), (41, .slice A20 t19.length c21), (42, .slice A31 t30.length c32)] ?_
     obtain ⟨t52, hg51, h⟩ := of_bind h
     refine RegI.o (OpE.call 43 (by kernel_rfl) 23 #[.slice A20 t19.length c21, .slice A31 t30.length c32] (by kernel_rfl) ((charabancref14_Same_23_ok K (fun _ => False) w42  A20 c21 A31 c32 t19 t30 (fun _ hf => hf.elim) (h44.slAny 1 rfl) (h44.ownSl 2 rfl) hg51).mono ?_))
     rintro _ w48 ⟨rfl, hb49⟩
     refine ⟨_, rfl, ?_⟩
     have h50 := h44.call hb49
     refine RegI.p 2 [(7, .int .i64 t23), (8, .int .i64 t24), (10, .int .i64 t34), (11, .int .i64 t35), (45, .bool t52)] ?_
     rcases of_cond h with ⟨hc53, h⟩ | ⟨hc53, h⟩
     ·skip
      refine RegI.f 45 true hc53 ?_
      refine RegI.p 5 [(8, .int .i64 t24), (11, .int .i64 t35), (50, .bool (t23 == t34))] ?_
      rcases of_cond h with ⟨hc54, h⟩ | ⟨hc54, h⟩
      ·skip
       refine RegI.f 50 true hc54 ?_
       refine RegI.p 5 [(4, .bool (t24 == t35))] ?_
       refine RegI.d ?_
       refine RunsI.t (.bool (t24 == t35)) ?_
       obtain rfl := Option.some.inj h
       exact ⟨rfl, h50.below⟩
      ·skip
       refine RegI.f 50 false hc54 ?_
       refine RegI.p 5 [(4, .bool false)] ?_
       refine RegI.d ?_
       refine RunsI.t (.bool false) ?_
       obtain rfl := Option.some.inj h
       exact ⟨rfl, h50.below⟩
     ·skip
      refine RegI.f 45 false hc53 ?_
      refine RegI.p 10 [(4, .bool false)] ?_
      refine RegI.d ?_
      refine RunsI.t (.bool false) ?_
      obtain rfl := Option.some.inj h
      exact ⟨rfl, h50.below⟩
    ·skip
     refine RegI.f 40 false hc47 ?_
     refine RegI.p 15 [(4, .bool false)] ?_
     refine RegI.d ?_
     refine RunsI.t (.bool false) ?_
     obtain rfl := Option.some.inj h
     exact ⟨rfl, h44.below⟩
  clear hJ12
  rcases of_cond h with ⟨hc7, h⟩ | ⟨hc7, h⟩
  ·skip
   refine RegI.f 18 true hc7 ?_
   refine RegI.p 4 [(0, .slice pA0 p0.length pc0), (1, .string p1), (22, .bool true)] ?_
   refine RegI.l [0, 1, 22] [(0, .slice pA0 p0.length pc0), (1, .string p1), (22, .bool true)] ?_
   exact hj13 true w1 h (h3.pick [0] (by decide))
  ·skip
   refine RegI.f 18 false hc7 ?_
   refine RegI.p 4 [(0, .slice pA0 p0.length pc0), (1, .string p1), (22, .bool (decide ((p1.size : Int) > 700)))] ?_
   refine RegI.l [0, 1, 22] [(0, .slice pA0 p0.length pc0), (1, .string p1), (22, .bool (decide ((p1.size : Int) > 700)))] ?_
   exact hj13 (decide ((p1.size : Int) > 700)) w1 h (h3.pick [0] (by decide))
end
end Go.Proofs.YtilgjfckgkkfmaaDoor.Hx
