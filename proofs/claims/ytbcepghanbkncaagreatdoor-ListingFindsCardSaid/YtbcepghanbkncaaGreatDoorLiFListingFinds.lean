/- The statement's function ListingFinds as a plain Lean function; written by wip/eng.py. -/
import Derived.Test.YtbcepghanbkncaaGreatDoorLiF5
set_option linter.unusedVariables false
set_option linter.unusedSimpArgs false
set_option maxHeartbeats 4000000
namespace Go.Proofs.YtbcepghanbkncaaGreatDoor.LiF
open Go.RowKit Go.Eng
noncomputable def B6 : Code := (Tryz.f6.body).getD .skip
noncomputable def F6 : Fun Tryz.prog := ⟨6, Tryz.f6, B6, 60, Tryz.func6, by kernel_rfl, by kernel_rfl, [], none⟩

variable {mx0 : Int}
/-! ### charabanc/charabanclaw34.ListingFinds (function 6) -/
section
def charabanclaw34_ListingFinds_6.post (M0 : Nat → Prop) (w0 : World) (r : Bool) : Ending → World → Prop := fun e w => e = .returned (.bool r) ∧ Below w0.heap.size w0 w
def charabanclaw34_ListingFinds_6.f (K : Nat) (p0 : List (Int × Int)) (p1 : Int) (p2 : List Int) : Option Bool := (charabanclaw34_awake_7.f K).bind fun t5 => cond (!t5) (some false) (Let (fun (t8 : Bool) => cond t8 (some true) ((listing_Find_20.f K p0 p1 p2).bind fun yt19 => (charabancref34_Find_21.f K p0 p1 p2).bind fun yt25 => cond (yt19.1 == yt25.1) (cond (yt19.2 == yt25.2) (cond (!yt19.2) (some true) ((charabancref14_Dump_22.f K p0 yt19.1 (p2.length : Int)).bind fun t45 => some ((ByteArray.toList (strOf t45)) == (ByteArray.toList (strOf p2))))) (some false)) (some false))) (fun j11 => cond (decide ((p0.length : Int) > 60)) (j11 true) (j11 (decide ((p2.length : Int) > 100)))))
set_option maxRecDepth 100000 in
theorem charabanclaw34_ListingFinds_6_ok (K : Nat) (M0 : Nat → Prop) (w0 : World) (pA0 : Option Addr) (pc0 : Nat) (pA2 : Option Addr) (pc2 : Nat) (p0 : List (Int × Int)) (p1 : Int) (p2 : List Int) (ho : ∀ b, M0 b → b < w0.heap.size) (hs0 : Sl (Rp.pair (Rp.int .u16) (Rp.int .u8)) w0 M0 (.slice pA0 p0.length pc0) p0) (hs2 : Sl (Rp.int .u8) w0 M0 (.slice pA2 p2.length pc2) p2) (hG0 : (cel 0 0 [Value.int .i64 mx0]).ok w0 M0) (hG1 : (gl 1 (tab_1.flatMap en_1)).ok w0 M0) (hG2 : (gl 2 (tab_2.flatMap en_2)).ok w0 M0) (hG3 : (gl 3 (tab_3.flatMap en_3)).ok w0 M0) (hG4 : (gl 4 (tab_4.flatMap en_4)).ok w0 M0) (hG5 : (gl 5 (tab_5.flatMap en_5)).ok w0 M0) (hG6 : (gl 6 (tab_6.flatMap en_6)).ok w0 M0) (hG7 : (gl 7 (tab_7.flatMap en_7)).ok w0 M0) (hG8 : (gl 8 (tab_8.flatMap en_8)).ok w0 M0) (hG9 : (gl 9 (tab_9.flatMap en_9)).ok w0 M0) (hG10 : (gl 10 (tab_10.flatMap en_10)).ok w0 M0) (hG11 : (gl 11 (tab_11.flatMap en_11)).ok w0 M0) (hG12 : (gl 12 (tab_12.flatMap en_12)).ok w0 M0) (hG13 : (gl 13 (tab_13.flatMap en_13)).ok w0 M0) (hG14 : (gl 14 (tab_14.flatMap en_14)).ok w0 M0) (hG15 : (gl 15 (tab_15.flatMap en_15)).ok w0 M0) (hG16 : (gl 16 (tab_16.flatMap en_16)).ok w0 M0) {r : Bool} (h : charabanclaw34_ListingFinds_6.f K p0 p1 p2 = some r) :
  Calls Tryz.prog 6 #[.slice pA0 p0.length pc0, .int .u16 p1, .slice pA2 p2.length pc2] w0 (charabanclaw34_ListingFinds_6.post M0 w0 r) := by
 unfold charabanclaw34_ListingFinds_6.f at h
 have h0 : Holds M0 w0 w0 [] := Holds.start ho
 have h00 := h0.addSl (Rp.pair (Rp.int .u16) (Rp.int .u8)) (.slice pA0 p0.length pc0) p0 (hs0.mono (fun _ _ hm => hm.elim id (fun hm => absurd hm (by simp [mines, sl]))))
 have h02 := h00.addSl (Rp.int .u8) (.slice pA2 p2.length pc2) p2 (hs2.mono (fun _ _ hm => hm.elim id (fun hm => absurd hm (by simp [mines, sl]))))
 have h0g0 := h02.add (cel 0 0 [Value.int .i64 mx0]) rfl ⟨hG0.1, fun hm => hG0.2.1 (hm.elim id (fun hm => absurd hm (by simp [mines, sl, gl, cel]))), hG0.2.2⟩
 have h0g1 := h0g0.add (gl 1 (tab_1.flatMap en_1)) rfl ⟨hG1.1, fun hm => hG1.2.1 (hm.elim id (fun hm => absurd hm (by simp [mines, sl, gl, cel]))), hG1.2.2⟩
 have h0g2 := h0g1.add (gl 2 (tab_2.flatMap en_2)) rfl ⟨hG2.1, fun hm => hG2.2.1 (hm.elim id (fun hm => absurd hm (by simp [mines, sl, gl, cel]))), hG2.2.2⟩
 have h0g3 := h0g2.add (gl 3 (tab_3.flatMap en_3)) rfl ⟨hG3.1, fun hm => hG3.2.1 (hm.elim id (fun hm => absurd hm (by simp [mines, sl, gl, cel]))), hG3.2.2⟩
 have h0g4 := h0g3.add (gl 4 (tab_4.flatMap en_4)) rfl ⟨hG4.1, fun hm => hG4.2.1 (hm.elim id (fun hm => absurd hm (by simp [mines, sl, gl, cel]))), hG4.2.2⟩
 have h0g5 := h0g4.add (gl 5 (tab_5.flatMap en_5)) rfl ⟨hG5.1, fun hm => hG5.2.1 (hm.elim id (fun hm => absurd hm (by simp [mines, sl, gl, cel]))), hG5.2.2⟩
 have h0g6 := h0g5.add (gl 6 (tab_6.flatMap en_6)) rfl ⟨hG6.1, fun hm => hG6.2.1 (hm.elim id (fun hm => absurd hm (by simp [mines, sl, gl, cel]))), hG6.2.2⟩
 have h0g7 := h0g6.add (gl 7 (tab_7.flatMap en_7)) rfl ⟨hG7.1, fun hm => hG7.2.1 (hm.elim id (fun hm => absurd hm (by simp [mines, sl, gl, cel]))), hG7.2.2⟩
 have h0g8 := h0g7.add (gl 8 (tab_8.flatMap en_8)) rfl ⟨hG8.1, fun hm => hG8.2.1 (hm.elim id (fun hm => absurd hm (by simp [mines, sl, gl, cel]))), hG8.2.2⟩
 have h0g9 := h0g8.add (gl 9 (tab_9.flatMap en_9)) rfl ⟨hG9.1, fun hm => hG9.2.1 (hm.elim id (fun hm => absurd hm (by simp [mines, sl, gl, cel]))), hG9.2.2⟩
 have h0g10 := h0g9.add (gl 10 (tab_10.flatMap en_10)) rfl ⟨hG10.1, fun hm => hG10.2.1 (hm.elim id (fun hm => absurd hm (by simp [mines, sl, gl, cel]))), hG10.2.2⟩
 have h0g11 := h0g10.add (gl 11 (tab_11.flatMap en_11)) rfl ⟨hG11.1, fun hm => hG11.2.1 (hm.elim id (fun hm => absurd hm (by simp [mines, sl, gl, cel]))), hG11.2.2⟩
 have h0g12 := h0g11.add (gl 12 (tab_12.flatMap en_12)) rfl ⟨hG12.1, fun hm => hG12.2.1 (hm.elim id (fun hm => absurd hm (by simp [mines, sl, gl, cel]))), hG12.2.2⟩
 have h0g13 := h0g12.add (gl 13 (tab_13.flatMap en_13)) rfl ⟨hG13.1, fun hm => hG13.2.1 (hm.elim id (fun hm => absurd hm (by simp [mines, sl, gl, cel]))), hG13.2.2⟩
 have h0g14 := h0g13.add (gl 14 (tab_14.flatMap en_14)) rfl ⟨hG14.1, fun hm => hG14.2.1 (hm.elim id (fun hm => absurd hm (by simp [mines, sl, gl, cel]))), hG14.2.2⟩
 have h0g15 := h0g14.add (gl 15 (tab_15.flatMap en_15)) rfl ⟨hG15.1, fun hm => hG15.2.1 (hm.elim id (fun hm => absurd hm (by simp [mines, sl, gl, cel]))), hG15.2.2⟩
 have h0g16 := h0g15.add (gl 16 (tab_16.flatMap en_16)) rfl ⟨hG16.1, fun hm => hG16.2.1 (hm.elim id (fun hm => absurd hm (by simp [mines, sl, gl, cel]))), hG16.2.2⟩
 have h0 : Holds M0 w0 w0 [sl (Rp.pair (Rp.int .u16) (Rp.int .u8)) (.slice pA0 p0.length pc0) p0, sl (Rp.int .u8) (.slice pA2 p2.length pc2) p2, cel 0 0 [Value.int .i64 mx0], gl 1 (tab_1.flatMap en_1), gl 2 (tab_2.flatMap en_2), gl 3 (tab_3.flatMap en_3), gl 4 (tab_4.flatMap en_4), gl 5 (tab_5.flatMap en_5), gl 6 (tab_6.flatMap en_6), gl 7 (tab_7.flatMap en_7), gl 8 (tab_8.flatMap en_8), gl 9 (tab_9.flatMap en_9), gl 10 (tab_10.flatMap en_10), gl 11 (tab_11.flatMap en_11), gl 12 (tab_12.flatMap en_12), gl 13 (tab_13.flatMap en_13), gl 14 (tab_14.flatMap en_14), gl 15 (tab_15.flatMap en_15), gl 16 (tab_16.flatMap en_16)] := h0g16
 refine calls_of F6 rfl [.slice pA0 p0.length pc0, .int .u16 p1, .slice pA2 p2.length pc2] (by kernel_rfl) ?_
 refine RunsI.g 1 [.c 1, .c 2] ?_
 refine RunsI.r ?_
 refine RegI.p 1 [(0, .slice pA0 p0.length pc0), (1, .int .u16 p1), (2, .slice pA2 p2.length pc2)] ?_
 refine RegI.d ?_
 refine RunsI.g 1 [.c 3, .c 4] ?_
 refine RunsI.r ?_
 obtain ⟨t5, hg4, h⟩ := of_bind h
 refine RegI.o (OpE.call 12 (by kernel_rfl) 7 #[] (by kernel_rfl) ((charabanclaw34_awake_7_ok K _ w0  h0.old' (h0.get 2 rfl) (h0.get 3 rfl) (h0.get 4 rfl) (h0.get 5 rfl) (h0.get 6 rfl) (h0.get 7 rfl) (h0.get 8 rfl) (h0.get 9 rfl) (h0.get 10 rfl) (h0.get 11 rfl) (h0.get 12 rfl) (h0.get 13 rfl) (h0.get 14 rfl) (h0.get 15 rfl) (h0.get 16 rfl) (h0.get 17 rfl) (h0.get 18 rfl) hg4).mono ?_))
 rintro _ w1 ⟨rfl, hb2⟩
 refine ⟨_, rfl, ?_⟩
 have h3 := h0.call hb2
 refine RegI.p 1 [(0, .slice pA0 p0.length pc0), (1, .int .u16 p1), (2, .slice pA2 p2.length pc2), (7, .bool t5)] ?_
 refine RegI.d ?_
 refine RunsI.g 2 [.c 6, .c 7, .c 12] ?_
 refine RunsI.r ?_
 refine RegI.p 2 [(0, .slice pA0 p0.length pc0), (1, .int .u16 p1), (2, .slice pA2 p2.length pc2), (14, .bool (!t5))] ?_
 refine RegI.d ?_
 rcases of_cond h with ⟨hc6, h⟩ | ⟨hc6, h⟩
 ·skip
  refine RunsI.f 14 true hc6 ?_
  refine RunsI.b true 8 ?_
  refine RunsI.g 1 [.c 9, .c 10, .c 12] ?_
  refine RunsI.r ?_
  refine RegI.p 1 [(6, .bool false)] ?_
  refine RegI.d ?_
  refine RunsI.t (.bool false) ?_
  obtain rfl := Option.some.inj h
  exact ⟨rfl, h3.below⟩
 ·skip
  refine RunsI.f 14 false hc6 ?_
  refine RunsI.b false 11 ?_
  refine RunsI.g 1 [.c 12] ?_
  refine RunsI.g 2 [.c 14, .c 15, .c 20] ?_
  refine RunsI.r ?_
  refine RegI.p 4 [(0, .slice pA0 p0.length pc0), (1, .int .u16 p1), (2, .slice pA2 p2.length pc2), (18, .bool (decide ((p0.length : Int) > 60)))] ?_
  obtain ⟨j11, hJ12, h⟩ := of_let h
  have hj13 : ∀ (t8 : Bool) (w10 : World), j11 t8 = some r → Holds M0 w0 w10 [sl (Rp.pair (Rp.int .u16) (Rp.int .u8)) (.slice pA0 p0.length pc0) p0, sl (Rp.int .u8) (.slice pA2 p2.length pc2) p2, cel 0 0 [Value.int .i64 mx0], gl 1 (tab_1.flatMap en_1), gl 2 (tab_2.flatMap en_2), gl 3 (tab_3.flatMap en_3), gl 4 (tab_4.flatMap en_4), gl 5 (tab_5.flatMap en_5), gl 6 (tab_6.flatMap en_6), gl 7 (tab_7.flatMap en_7), gl 8 (tab_8.flatMap en_8), gl 9 (tab_9.flatMap en_9), gl 10 (tab_10.flatMap en_10), gl 11 (tab_11.flatMap en_11), gl 12 (tab_12.flatMap en_12), gl 13 (tab_13.flatMap en_13), gl 14 (tab_14.flatMap en_14), gl 15 (tab_15.flatMap en_15), gl 16 (tab_16.flatMap en_16)] → RegI F6 14 [.c 15, .c 20] 8 [(0, .slice pA0 p0.length pc0), (1, .int .u16 p1), (2, .slice pA2 p2.length pc2), (22, .bool t8)] w10 (charabanclaw34_ListingFinds_6.post M0 w0 r) := by
   intro t8 w10 h h9
   rw [hJ12] at h
   clear hJ12
   dsimp only at h
   refine RegI.d ?_
   rcases of_cond h with ⟨hc14, h⟩ | ⟨hc14, h⟩
   ·skip
    refine RunsI.f 22 true hc14 ?_
    refine RunsI.b true 16 ?_
    refine RunsI.g 1 [.c 17, .c 18, .c 20] ?_
    refine RunsI.r ?_
    refine RegI.p 1 [(6, .bool true)] ?_
    refine RegI.d ?_
    refine RunsI.t (.bool true) ?_
    obtain rfl := Option.some.inj h
    exact ⟨rfl, h9.below⟩
   ·skip
    refine RunsI.f 22 false hc14 ?_
    refine RunsI.b false 19 ?_
    refine RunsI.g 1 [.c 20] ?_
    refine RunsI.g 1 [.c 21, .c 22] ?_
    refine RunsI.r ?_
    refine RegI.p 3 [(0, .slice pA0 p0.length pc0), (1, .int .u16 p1), (2, .slice pA2 p2.length pc2), (24, .slice pA0 p0.length pc0), (25, .int .u16 p1), (26, .slice pA2 p2.length pc2)] ?_
    obtain ⟨⟨t19, t20⟩, hg18, h⟩ := of_bind h
    dsimp only at h
    refine RegI.o (OpE.call 27 (by kernel_rfl) 20 #[.slice pA0 p0.length pc0, .int .u16 p1, .slice pA2 p2.length pc2] (by kernel_rfl) ((listing_Find_20_ok K _ w10  pA0 pc0 pA2 pc2 p0 p1 p2 h9.old' (h9.get 0 rfl) (h9.get 1 rfl) (h9.get 2 rfl) hg18).mono ?_))
    rintro _ w15 ⟨rfl, hb16⟩
    refine ⟨_, rfl, ?_⟩
    have h17 := h9.call hb16
    refine RegI.p 5 [(0, .slice pA0 p0.length pc0), (1, .int .u16 p1), (2, .slice pA2 p2.length pc2), (8, .int .u16 t19), (9, .bool t20)] ?_
    refine RegI.d ?_
    refine RunsI.g 1 [.c 23, .c 24] ?_
    refine RunsI.r ?_
    refine RegI.p 3 [(0, .slice pA0 p0.length pc0), (2, .slice pA2 p2.length pc2), (8, .int .u16 t19), (9, .bool t20), (31, .slice pA0 p0.length pc0), (32, .int .u16 p1), (33, .slice pA2 p2.length pc2)] ?_
    obtain ⟨⟨t25, t26⟩, hg24, h⟩ := of_bind h
    dsimp only at h
    refine RegI.o (OpE.call 34 (by kernel_rfl) 21 #[.slice pA0 p0.length pc0, .int .u16 p1, .slice pA2 p2.length pc2] (by kernel_rfl) ((charabancref34_Find_21_ok K _ w15  pA0 pc0 pA2 pc2 p0 p1 p2 h17.old' (h17.get 0 rfl) (h17.get 1 rfl) hg24).mono ?_))
    rintro _ w21 ⟨rfl, hb22⟩
    refine ⟨_, rfl, ?_⟩
    have h23 := h17.call hb22
    refine RegI.p 5 [(0, .slice pA0 p0.length pc0), (2, .slice pA2 p2.length pc2), (8, .int .u16 t19), (9, .bool t20), (10, .int .u16 t25), (11, .bool t26)] ?_
    refine RegI.d ?_
    refine RunsI.g 1 [.c 25, .c 26] ?_
    refine RunsI.any 24 (by kernel_rfl) (by kernel_rfl) (by kernel_rfl) (Kp ([] : List Nat) (World.drew w21)) ?_
    have h28 := h23.drew
    generalize World.drew w21 = w27 at h28 ⊢
    have hS29 := Kp.refl ([] : List Nat) w27
    refine AnyE.pure 0 37 (.int .u16 t19) (by kernel_rfl) hS29 (fun _ => by kernel_rfl) ?_
    refine AnyE.pure 1 38 (.int .u16 t25) (by kernel_rfl) hS29 (fun _ => by kernel_rfl) ?_
    refine AnyE.pure 2 39 (.bool (t19 == t25)) (by kernel_rfl) hS29 (fun _ => by kernel_rfl) ?_
    refine AnyE.pure 3 40 (.bool (t19 == t25)) (by kernel_rfl) hS29 (fun _ => by kernel_rfl) ?_
    rcases of_cond h with ⟨hc31, h⟩ | ⟨hc31, h⟩
    ·skip
     refine AnyE.fix 40 true hc31 (by kernel_rfl) (by kernel_rfl) ?_
     refine AnyE.pure 4 41 (.bool t20) (by kernel_rfl) hS29 (fun _ => by kernel_rfl) ?_
     refine AnyE.pure 5 42 (.bool t26) (by kernel_rfl) hS29 (fun _ => by kernel_rfl) ?_
     refine AnyE.pure 6 43 (.bool (t20 == t26)) (by kernel_rfl) hS29 (fun _ => by kernel_rfl) ?_
     refine AnyE.pure 7 44 (.bool (t20 == t26)) (by kernel_rfl) hS29 (fun _ => by kernel_rfl) ?_
     refine AnyE.pure 8 45 (.bool (t20 == t26)) (by kernel_rfl) hS29 (fun _ => by kernel_rfl) ?_
     rcases of_cond h with ⟨hc32, h⟩ | ⟨hc32, h⟩
     ·skip
      refine AnyE.fix 45 true hc32 (by kernel_rfl) (by kernel_rfl) ?_
      refine AnyE.pure 9 46 (.bool t20) (by kernel_rfl) hS29 (fun _ => by kernel_rfl) ?_
      refine AnyE.pure 10 47 (.bool (!t20)) (by kernel_rfl) hS29 (fun _ => by kernel_rfl) ?_
      refine AnyE.pure 11 48 (.bool (!t20)) (by kernel_rfl) hS29 (fun _ => by kernel_rfl) ?_
      rcases of_cond h with ⟨hc33, h⟩ | ⟨hc33, h⟩
      ·skip
       refine AnyE.fix 48 true hc33 (by kernel_rfl) (by kernel_rfl) ?_
       refine AnyE.no 12 49 (by kernel_rfl) hS29 ?_
       refine AnyE.no 13 50 (by kernel_rfl) hS29 ?_
       refine AnyE.no 14 51 (by kernel_rfl) hS29 ?_
       refine AnyE.no 15 52 (by kernel_rfl) hS29 ?_
       refine AnyE.no 16 53 (by kernel_rfl) hS29 ?_
       refine AnyE.no 17 54 (by kernel_rfl) hS29 ?_
       refine AnyE.no 18 55 (by kernel_rfl) hS29 ?_
       refine AnyE.no 19 56 (by kernel_rfl) hS29 ?_
       refine AnyE.no 20 57 (by kernel_rfl) hS29 ?_
       refine AnyE.pure 21 58 (.bool true) (by kernel_rfl) hS29 (fun _ => by kernel_rfl) ?_
       refine AnyE.pure 22 59 (.bool true) (by kernel_rfl) hS29 (fun _ => by kernel_rfl) ?_
       refine AnyE.pure 23 6 (.bool true) (by kernel_rfl) hS29 (fun _ => by kernel_rfl) ?_
       refine AnyE.done (by kernel_rfl) (fun w34 hu35 => ?_)
       have h36 := h28.call hu35
       refine RunsI.l [6] [(6, .bool true)] ?_
       refine RunsI.t (.bool true) ?_
       obtain rfl := Option.some.inj h
       exact ⟨rfl, h36.below⟩
      ·skip
       refine AnyE.fix 48 false hc33 (by kernel_rfl) (by kernel_rfl) ?_
       refine AnyE.pure 12 49 (.slice pA0 p0.length pc0) (by kernel_rfl) hS29 (fun _ => by kernel_rfl) ?_
       refine AnyE.pure 13 50 (.int .u16 t19) (by kernel_rfl) hS29 (fun _ => by kernel_rfl) ?_
       refine AnyE.pure 14 51 (.slice pA2 p2.length pc2) (by kernel_rfl) hS29 (fun _ => by kernel_rfl) ?_
       refine AnyE.pure 15 52 (.int .i64 (p2.length : Int)) (by kernel_rfl) hS29 (fun _ => by kernel_rfl) ?_
       refine AnyE.pure 18 55 (.slice pA2 p2.length pc2) (by kernel_rfl) hS29 (fun _ => by kernel_rfl) ?_
       refine AnyE.run 19 56 (.string (strOf p2)) (by kernel_rfl) hS29 (fun _ hk => run_toStr (s := 39) (d := 9) (v := .slice pA2 p2.length pc2) (by kernel_rfl) (by kernel_rfl) (h28.rdSlI [] rfl hk 1 rfl rfl)) ?_
       refine AnyE.one 16 (by kernel_rfl) (fun w37 hu38 => ?_)
       have h39 := h28.call hu38
       have hS40 := hS29.up hu38
       obtain ⟨t45, hg44, h⟩ := of_bind h
       refine OpE.call 53 (by kernel_rfl) 22 #[.slice pA0 p0.length pc0, .int .u16 t19, .int .i64 (p2.length : Int)] (by kernel_rfl) ((charabancref14_Dump_22_ok K _ w37  pA0 pc0 p0 t19 (p2.length : Int) h39.old' (h39.get 0 rfl) hg44).mono ?_)
       rintro _ w41 ⟨A46, c47, rfl, hr49⟩
       refine ⟨_, rfl, ?_⟩
       have hb42 := hr49.below
       have h43 : Holds M0 w0 w41 [sl (Rp.pair (Rp.int .u16) (Rp.int .u8)) (.slice pA0 p0.length pc0) p0, sl (Rp.int .u8) (.slice pA2 p2.length pc2) p2, cel 0 0 [Value.int .i64 mx0], gl 1 (tab_1.flatMap en_1), gl 2 (tab_2.flatMap en_2), gl 3 (tab_3.flatMap en_3), gl 4 (tab_4.flatMap en_4), gl 5 (tab_5.flatMap en_5), gl 6 (tab_6.flatMap en_6), gl 7 (tab_7.flatMap en_7), gl 8 (tab_8.flatMap en_8), gl 9 (tab_9.flatMap en_9), gl 10 (tab_10.flatMap en_10), gl 11 (tab_11.flatMap en_11), gl 12 (tab_12.flatMap en_12), gl 13 (tab_13.flatMap en_13), gl 14 (tab_14.flatMap en_14), gl 15 (tab_15.flatMap en_15), gl 16 (tab_16.flatMap en_16), own (Rp.int .u8) 5 (.slice A46 t45.length c47) t45] := h39.join hr49
       have hS50 := hS40.up hb42
       refine ⟨hS50, ?_⟩
       refine AnyE.one 17 (by kernel_rfl) (fun w51 hu52 => ?_)
       have h53 := h43.call hu52
       have hS54 := hS50.up hu52
       refine OpE.run 54 (by kernel_rfl) (run_toStr (s := 39) (d := 9) (v := .slice A46 t45.length c47) (by kernel_rfl) (by kernel_rfl) (h53.rdOwn 19 rfl)) ?_
       refine ⟨hS54, ?_⟩
       refine AnyE.pure 20 57 (.bool ((ByteArray.toList (strOf t45)) == (ByteArray.toList (strOf p2)))) (by kernel_rfl) hS54 (fun _ => by kernel_rfl) ?_
       refine AnyE.pure 21 58 (.bool ((ByteArray.toList (strOf t45)) == (ByteArray.toList (strOf p2)))) (by kernel_rfl) hS54 (fun _ => by kernel_rfl) ?_
       refine AnyE.pure 22 59 (.bool ((ByteArray.toList (strOf t45)) == (ByteArray.toList (strOf p2)))) (by kernel_rfl) hS54 (fun _ => by kernel_rfl) ?_
       refine AnyE.pure 23 6 (.bool ((ByteArray.toList (strOf t45)) == (ByteArray.toList (strOf p2)))) (by kernel_rfl) hS54 (fun _ => by kernel_rfl) ?_
       refine AnyE.done (by kernel_rfl) (fun w56 hu57 => ?_)
       have h58 := h53.call hu57
       refine RunsI.l [6] [(6, .bool ((ByteArray.toList (strOf t45)) == (ByteArray.toList (strOf p2))))] ?_
       refine RunsI.t (.bool ((ByteArray.toList (strOf t45)) == (ByteArray.toList (strOf p2)))) ?_
       obtain rfl := Option.some.inj h
       exact ⟨rfl, h58.below⟩
     ·skip
      refine AnyE.fix 45 false hc32 (by kernel_rfl) (by kernel_rfl) ?_
      refine AnyE.no 9 46 (by kernel_rfl) hS29 ?_
      refine AnyE.no 10 47 (by kernel_rfl) hS29 ?_
      refine AnyE.no 11 48 (by kernel_rfl) hS29 ?_
      refine AnyE.no 12 49 (by kernel_rfl) hS29 ?_
      refine AnyE.no 13 50 (by kernel_rfl) hS29 ?_
      refine AnyE.no 14 51 (by kernel_rfl) hS29 ?_
      refine AnyE.no 15 52 (by kernel_rfl) hS29 ?_
      refine AnyE.no 16 53 (by kernel_rfl) hS29 ?_
      refine AnyE.no 17 54 (by kernel_rfl) hS29 ?_
      refine AnyE.no 18 55 (by kernel_rfl) hS29 ?_
      refine AnyE.no 19 56 (by kernel_rfl) hS29 ?_
      refine AnyE.no 20 57 (by kernel_rfl) hS29 ?_
      refine AnyE.no 21 58 (by kernel_rfl) hS29 ?_
      refine AnyE.pure 22 59 (.bool false) (by kernel_rfl) hS29 (fun _ => by kernel_rfl) ?_
      refine AnyE.pure 23 6 (.bool false) (by kernel_rfl) hS29 (fun _ => by kernel_rfl) ?_
      refine AnyE.done (by kernel_rfl) (fun w59 hu60 => ?_)
      have h61 := h28.call hu60
      refine RunsI.l [6] [(6, .bool false)] ?_
      refine RunsI.t (.bool false) ?_
      obtain rfl := Option.some.inj h
      exact ⟨rfl, h61.below⟩
    ·skip
     refine AnyE.fix 40 false hc31 (by kernel_rfl) (by kernel_rfl) ?_
     refine AnyE.no 4 41 (by kernel_rfl) hS29 ?_
     refine AnyE.no 5 42 (by kernel_rfl) hS29 ?_
     refine AnyE.no 6 43 (by kernel_rfl) hS29 ?_
     refine AnyE.pure 7 44 (.bool false) (by kernel_rfl) hS29 (fun _ => by kernel_rfl) ?_
     refine AnyE.pure 8 45 (.bool false) (by kernel_rfl) hS29 (fun _ => by kernel_rfl) ?_
     refine AnyE.no 9 46 (by kernel_rfl) hS29 ?_
     refine AnyE.no 10 47 (by kernel_rfl) hS29 ?_
     refine AnyE.no 11 48 (by kernel_rfl) hS29 ?_
     refine AnyE.no 12 49 (by kernel_rfl) hS29 ?_
     refine AnyE.no 13 50 (by kernel_rfl) hS29 ?_
     refine AnyE.no 14 51 (by kernel_rfl) hS29 ?_
     refine AnyE.no 15 52 (by kernel_rfl) hS29 ?_
     refine AnyE.no 16 53 (by kernel_rfl) hS29 ?_
     refine AnyE.no 17 54 (by kernel_rfl) hS29 ?_
     refine AnyE.no 18 55 (by kernel_rfl) hS29 ?_
     refine AnyE.no 19 56 (by kernel_rfl) hS29 ?_
     refine AnyE.no 20 57 (by kernel_rfl) hS29 ?_
     refine AnyE.no 21 58 (by kernel_rfl) hS29 ?_
     refine AnyE.pure 22 59 (.bool false) (by kernel_rfl) hS29 (fun _ => by kernel_rfl) ?_
     refine AnyE.pure 23 6 (.bool false) (by kernel_rfl) hS29 (fun _ => by kernel_rfl) ?_
     refine AnyE.done (by kernel_rfl) (fun w62 hu63 => ?_)
     have h64 := h28.call hu63
     refine RunsI.l [6] [(6, .bool false)] ?_
     refine RunsI.t (.bool false) ?_
     obtain rfl := Option.some.inj h
     exact ⟨rfl, h64.below⟩
  clear hJ12
  rcases of_cond h with ⟨hc7, h⟩ | ⟨hc7, h⟩
  ·skip
   refine RegI.f 18 true hc7 ?_
   refine RegI.p 4 [(0, .slice pA0 p0.length pc0), (1, .int .u16 p1), (2, .slice pA2 p2.length pc2), (22, .bool true)] ?_
   refine RegI.l [0, 1, 2, 22] [(0, .slice pA0 p0.length pc0), (1, .int .u16 p1), (2, .slice pA2 p2.length pc2), (22, .bool true)] ?_
   exact hj13 true w1 h (h3.pick [0, 1, 2, 3, 4, 5, 6, 7, 8, 9, 10, 11, 12, 13, 14, 15, 16, 17, 18] (by decide))
  ·skip
   refine RegI.f 18 false hc7 ?_
   refine RegI.p 4 [(0, .slice pA0 p0.length pc0), (1, .int .u16 p1), (2, .slice pA2 p2.length pc2), (22, .bool (decide ((p2.length : Int) > 100)))] ?_
   refine RegI.l [0, 1, 2, 22] [(0, .slice pA0 p0.length pc0), (1, .int .u16 p1), (2, .slice pA2 p2.length pc2), (22, .bool (decide ((p2.length : Int) > 100)))] ?_
   exact hj13 (decide ((p2.length : Int) > 100)) w1 h (h3.pick [0, 1, 2, 3, 4, 5, 6, 7, 8, 9, 10, 11, 12, 13, 14, 15, 16, 17, 18] (by decide))
end
end Go.Proofs.YtbcepghanbkncaaGreatDoor.LiF
