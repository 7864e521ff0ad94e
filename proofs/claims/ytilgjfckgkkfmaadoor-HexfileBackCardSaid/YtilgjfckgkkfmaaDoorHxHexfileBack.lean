/- The statement's function HexfileBack as a plain Lean function; written by wip/eng.py. -/
import Derived.Test.YtilgjfckgkkfmaaDoorHx3
set_option linter.unusedVariables false
set_option linter.unusedSimpArgs false
set_option maxHeartbeats 4000000
namespace Go.Proofs.YtilgjfckgkkfmaaDoor.Hx
open Go.RowKit Go.Eng
noncomputable def B5 : Code := (Tryd.f5.body).getD .skip
noncomputable def F5 : Fun Tryd.prog := ⟨5, Tryd.f5, B5, 79, Tryd.func5, by kernel_rfl, by kernel_rfl, [], none⟩

/-! ### charabanc/charabanclaw33.HexfileBack (function 5) -/
section
def charabanclaw33_HexfileBack_5.post (M0 : Nat → Prop) (w0 : World) (r : Bool) : Ending → World → Prop := fun e w => e = .returned (.bool r) ∧ Below w0.heap.size w0 w
def charabanclaw33_HexfileBack_5.f (K : Nat) (p0 : List (Int × Int)) (p1_0 : Int) (p1_1 : Int) (p1_2 : List Int) : Option Bool := (charabanclaw33_awake_10.f K).bind fun t10 => cond (!t10) (some false) (Let (fun (t13 : Bool) => cond t13 (some true) ((hexfile_Show_21.f K p0).bind fun t24 => (hexfile_Read_19.f K t24).bind fun yt29 => (hexfile_Line_11.f K p1_0 p1_1 p1_2).bind fun yt40 => (hexfile_Parse_14.f K yt40.1).bind fun yt46 => cond (yt29.2.1 == 0) (cond (yt29.2.2 == 0) ((charabancref14_Make_24.f K p0).bind fun t76 => (charabancref14_Same_23.f K yt29.1 t76).bind fun t90 => cond t90 (cond (yt40.2 == 0) (cond (yt46.2.2.2 == 0) ((charabanclaw33_plain_13.f K yt46.1 yt46.2.1 yt46.2.2.1).bind fun yt103 => (charabanclaw33_plain_13.f K p1_0 p1_1 p1_2).bind fun yt119 => (charabancref33_Same_16.f K yt103.1 yt103.2.1 yt103.2.2 yt119.1 yt119.2.1 yt119.2.2).bind fun t135 => cond t135 (some ((yt40.1.size : Int) == (IntKind.wrap .i64 (11 + (IntKind.wrap .i64 (2 * (p1_2.length : Int))))))) (some false)) (some false)) (some false)) (some false)) (some false)) (some false))) (fun j16 => cond (decide ((p0.length : Int) > 60)) (j16 true) (j16 (decide ((p1_2.length : Int) > 255)))))
set_option maxRecDepth 100000 in
theorem charabanclaw33_HexfileBack_5_ok (K : Nat) (M0 : Nat → Prop) (w0 : World) (pA0 : Option Addr) (pc0 : Nat) (pA1_2 : Option Addr) (pc1_2 : Nat) (p0 : List (Int × Int)) (p1_0 : Int) (p1_1 : Int) (p1_2 : List Int) (ho : ∀ b, M0 b → b < w0.heap.size) (hs0 : Sl (Rp.pair (Rp.int .u16) (Rp.int .u8)) w0 M0 (.slice pA0 p0.length pc0) p0) (hs1_2 : Sl (Rp.int .u8) w0 M0 (.slice pA1_2 p1_2.length pc1_2) p1_2) {r : Bool} (h : charabanclaw33_HexfileBack_5.f K p0 p1_0 p1_1 p1_2 = some r) :
  Calls Tryd.prog 5 #[.slice pA0 p0.length pc0, .agg #[.int .u8 p1_0, .int .u16 p1_1, .slice pA1_2 p1_2.length pc1_2]] w0 (charabanclaw33_HexfileBack_5.post M0 w0 r) := by
 unfold charabanclaw33_HexfileBack_5.f at h
 have h0 : Holds M0 w0 w0 [] := Holds.start ho
 have h00 := h0.addSl (Rp.pair (Rp.int .u16) (Rp.int .u8)) (.slice pA0 p0.length pc0) p0 (hs0.mono (fun _ _ hm => hm.elim id (fun hm => absurd hm (by simp [mines, sl]))))
 have h01_2 := h00.addSl (Rp.int .u8) (.slice pA1_2 p1_2.length pc1_2) p1_2 (hs1_2.mono (fun _ _ hm => hm.elim id (fun hm => absurd hm (by simp [mines, sl]))))
 have h0 : Holds M0 w0 w0 [sl (Rp.pair (Rp.int .u16) (Rp.int .u8)) (.slice pA0 p0.length pc0) p0, sl (Rp.int .u8) (.slice pA1_2 p1_2.length pc1_2) p1_2] := h01_2
 refine calls_of F5 rfl [.slice pA0 p0.length pc0, .agg #[.int .u8 p1_0, .int .u16 p1_1, .slice pA1_2 p1_2.length pc1_2]] (by kernel_rfl) ?_
 refine RunsI.g 1 [.c 1, .c 2] ?_
 refine RunsI.r ?_
 refine RegI.o (OpE.box 3 25 [.int .u8 p1_0, .int .u16 p1_1, .slice pA1_2 p1_2.length pc1_2] h0 (by kernel_rfl) (by kernel_rfl) ?_)
 intro w1 b2 h3 hb4 hn5
 refine RegI.p 1 [(0, .slice pA0 p0.length pc0), (3, .pointer (some ⟨b2, 0, none⟩))] ?_
 refine RegI.d ?_
 refine RunsI.g 1 [.c 3, .c 4] ?_
 refine RunsI.r ?_
 obtain ⟨t10, hg9, h⟩ := of_bind h
 refine RegI.o (OpE.call 13 (by kernel_rfl) 10 #[] (by kernel_rfl) ((charabanclaw33_awake_10_ok K _ w1  h3.old' hg9).mono ?_))
 rintro _ w6 ⟨rfl, hb7⟩
 refine ⟨_, rfl, ?_⟩
 have h8 := h3.call hb7
 refine RegI.p 1 [(0, .slice pA0 p0.length pc0), (3, .pointer (some ⟨b2, 0, none⟩)), (5, .bool t10)] ?_
 refine RegI.d ?_
 refine RunsI.g 2 [.c 6, .c 7, .c 12] ?_
 refine RunsI.r ?_
 refine RegI.p 2 [(0, .slice pA0 p0.length pc0), (3, .pointer (some ⟨b2, 0, none⟩)), (15, .bool (!t10))] ?_
 refine RegI.d ?_
 rcases of_cond h with ⟨hc11, h⟩ | ⟨hc11, h⟩
 ·skip
  refine RunsI.f 15 true hc11 ?_
  refine RunsI.b true 8 ?_
  refine RunsI.g 1 [.c 9, .c 10, .c 12] ?_
  refine RunsI.r ?_
  refine RegI.p 1 [(4, .bool false)] ?_
  refine RegI.d ?_
  refine RunsI.t (.bool false) ?_
  obtain rfl := Option.some.inj h
  exact ⟨rfl, h8.below⟩
 ·skip
  refine RunsI.f 15 false hc11 ?_
  refine RunsI.b false 11 ?_
  refine RunsI.g 1 [.c 12] ?_
  refine RunsI.g 2 [.c 14, .c 15, .c 20] ?_
  refine RunsI.r ?_
  refine RegI.p 4 [(0, .slice pA0 p0.length pc0), (3, .pointer (some ⟨b2, 0, none⟩)), (19, .bool (decide ((p0.length : Int) > 60)))] ?_
  obtain ⟨j16, hJ17, h⟩ := of_let h
  have hj18 : ∀ (t13 : Bool) (w15 : World), j16 t13 = some r → Holds M0 w0 w15 [sl (Rp.pair (Rp.int .u16) (Rp.int .u8)) (.slice pA0 p0.length pc0) p0, box b2 25 [.int .u8 p1_0, .int .u16 p1_1, .slice pA1_2 p1_2.length pc1_2], sl (Rp.int .u8) (.slice pA1_2 p1_2.length pc1_2) p1_2] → RegI F5 14 [.c 15, .c 20] 9 [(0, .slice pA0 p0.length pc0), (3, .pointer (some ⟨b2, 0, none⟩)), (24, .bool t13)] w15 (charabanclaw33_HexfileBack_5.post M0 w0 r) := by
   intro t13 w15 h h14
   rw [hJ17] at h
   clear hJ17
   dsimp only at h
   refine RegI.d ?_
   rcases of_cond h with ⟨hc19, h⟩ | ⟨hc19, h⟩
   ·skip
    refine RunsI.f 24 true hc19 ?_
    refine RunsI.b true 16 ?_
    refine RunsI.g 1 [.c 17, .c 18, .c 20] ?_
    refine RunsI.r ?_
    refine RegI.p 1 [(4, .bool true)] ?_
    refine RegI.d ?_
    refine RunsI.t (.bool true) ?_
    obtain rfl := Option.some.inj h
    exact ⟨rfl, h14.below⟩
   ·skip
    refine RunsI.f 24 false hc19 ?_
    refine RunsI.b false 19 ?_
    refine RunsI.g 1 [.c 20] ?_
    refine RunsI.g 1 [.c 21, .c 22] ?_
    refine RunsI.r ?_
    refine RegI.p 1 [(0, .slice pA0 p0.length pc0), (3, .pointer (some ⟨b2, 0, none⟩)), (26, .slice pA0 p0.length pc0)] ?_
    obtain ⟨t24, hg23, h⟩ := of_bind h
    refine RegI.o (OpE.call 27 (by kernel_rfl) 21 #[.slice pA0 p0.length pc0] (by kernel_rfl) ((hexfile_Show_21_ok K _ w15  pA0 pc0 p0 h14.old' (h14.get 0 rfl) hg23).mono ?_))
    rintro _ w20 ⟨rfl, hb21⟩
    refine ⟨_, rfl, ?_⟩
    have h22 := h14.call hb21
    obtain ⟨⟨t29, t33, t34⟩, hg28, h⟩ := of_bind h
    dsimp only at h
    refine RegI.o (OpE.call 28 (by kernel_rfl) 19 #[.string t24] (by kernel_rfl) ((hexfile_Read_19_ok K _ w20  t24 h22.old' hg28).mono ?_))
    rintro _ w25 ⟨A30, c31, rfl, hr35⟩
    refine ⟨_, rfl, ?_⟩
    have hb26 := hr35.below
    have h27 := h22.join hr35
    refine RegI.p 7 [(0, .slice pA0 p0.length pc0), (3, .pointer (some ⟨b2, 0, none⟩)), (6, .slice A30 t29.length c31), (7, .int .i64 t33), (8, .int .i64 t34)] ?_
    refine RegI.d ?_
    refine RunsI.g 1 [.c 23, .c 24] ?_
    refine RunsI.r ?_
    refine RegI.o (OpE.loadBox 33 1 25 b2 0 (.agg #[.int .u8 p1_0, .int .u16 p1_1, .slice pA1_2 p1_2.length pc1_2]) h27 (by kernel_rfl) (by kernel_rfl) rfl (by kernel_rfl) ?_)
    obtain ⟨⟨t40, t41⟩, hg39, h⟩ := of_bind h
    dsimp only at h
    refine RegI.o (OpE.call 34 (by kernel_rfl) 11 #[.agg #[.int .u8 p1_0, .int .u16 p1_1, .slice pA1_2 p1_2.length pc1_2]] (by kernel_rfl) ((hexfile_Line_11_ok K _ w25  pA1_2 pc1_2 p1_0 p1_1 p1_2 h27.old' (h27.get 2 rfl) hg39).mono ?_))
    rintro _ w36 ⟨rfl, hb37⟩
    refine ⟨_, rfl, ?_⟩
    have h38 := h27.call hb37
    refine RegI.p 5 [(0, .slice pA0 p0.length pc0), (3, .pointer (some ⟨b2, 0, none⟩)), (6, .slice A30 t29.length c31), (7, .int .i64 t33), (8, .int .i64 t34), (9, .string t40), (10, .int .i64 t41)] ?_
    refine RegI.d ?_
    refine RunsI.g 1 [.c 25, .c 26] ?_
    refine RunsI.r ?_
    refine RegI.p 1 [(0, .slice pA0 p0.length pc0), (3, .pointer (some ⟨b2, 0, none⟩)), (6, .slice A30 t29.length c31), (7, .int .i64 t33), (8, .int .i64 t34), (9, .string t40), (10, .int .i64 t41), (38, .string t40)] ?_
    obtain ⟨⟨t46, t47, t48, t52⟩, hg45, h⟩ := of_bind h
    dsimp only at h
    refine RegI.o (OpE.call 39 (by kernel_rfl) 14 #[.string t40] (by kernel_rfl) ((hexfile_Parse_14_ok K _ w36  t40 h38.old' hg45).mono ?_))
    rintro _ w42 ⟨A49, c50, rfl, hr53⟩
    refine ⟨_, rfl, ?_⟩
    have hb43 := hr53.below
    have h44 := h38.join hr53
    refine RegI.p 3 [(0, .slice pA0 p0.length pc0), (3, .pointer (some ⟨b2, 0, none⟩)), (6, .slice A30 t29.length c31), (7, .int .i64 t33), (8, .int .i64 t34), (9, .string t40), (10, .int .i64 t41), (40, .agg #[.int .u8 t46, .int .u16 t47, .slice A49 t48.length c50]), (41, .int .i64 t52)] ?_
    refine RegI.o (OpE.box 11 25 [.int .u8 0, .int .u16 0, .slice none 0 0] h44 (by kernel_rfl) (by kernel_rfl) ?_)
    intro w54 b55 h56 hb57 hn58
    refine RegI.o (OpE.storeBox 5 25 b55 0 (.agg #[.int .u8 t46, .int .u16 t47, .slice A49 t48.length c50]) [.int .u8 t46, .int .u16 t47, .slice A49 t48.length c50] h56 (by kernel_rfl) (by kernel_rfl) rfl (by kernel_rfl) (by kernel_rfl) (by kernel_rfl) ?_)
    intro w59 h60 hk61
    refine RegI.p 1 [(0, .slice pA0 p0.length pc0), (3, .pointer (some ⟨b2, 0, none⟩)), (6, .slice A30 t29.length c31), (7, .int .i64 t33), (8, .int .i64 t34), (9, .string t40), (10, .int .i64 t41), (11, .pointer (some ⟨b55, 0, none⟩)), (12, .int .i64 t52)] ?_
    refine RegI.d ?_
    refine RunsI.g 1 [.c 27, .c 28] ?_
    refine RunsI.any 38 (by kernel_rfl) (by kernel_rfl) (by kernel_rfl) (Kp ([] : List Nat) (World.drew w59)) ?_
    have h63 := h60.drew
    generalize World.drew w59 = w62 at h63 ⊢
    have hS64 := Kp.refl ([] : List Nat) w62
    refine AnyE.pure 0 42 (.int .i64 t33) (by kernel_rfl) hS64 (fun _ => by kernel_rfl) ?_
    refine AnyE.pure 1 43 (.bool (t33 == 0)) (by kernel_rfl) hS64 (fun _ => by kernel_rfl) ?_
    refine AnyE.pure 2 44 (.bool (t33 == 0)) (by kernel_rfl) hS64 (fun _ => by kernel_rfl) ?_
    rcases of_cond h with ⟨hc66, h⟩ | ⟨hc66, h⟩
    ·skip
     refine AnyE.fix 44 true hc66 (by kernel_rfl) (by kernel_rfl) ?_
     refine AnyE.pure 3 45 (.int .i64 t34) (by kernel_rfl) hS64 (fun _ => by kernel_rfl) ?_
     refine AnyE.pure 4 46 (.bool (t34 == 0)) (by kernel_rfl) hS64 (fun _ => by kernel_rfl) ?_
     refine AnyE.pure 5 47 (.bool (t34 == 0)) (by kernel_rfl) hS64 (fun _ => by kernel_rfl) ?_
     refine AnyE.pure 6 48 (.bool (t34 == 0)) (by kernel_rfl) hS64 (fun _ => by kernel_rfl) ?_
     rcases of_cond h with ⟨hc67, h⟩ | ⟨hc67, h⟩
     ·skip
      refine AnyE.fix 48 true hc67 (by kernel_rfl) (by kernel_rfl) ?_
      refine AnyE.pure 7 49 (.slice A30 t29.length c31) (by kernel_rfl) hS64 (fun _ => by kernel_rfl) ?_
      refine AnyE.pure 8 50 (.slice pA0 p0.length pc0) (by kernel_rfl) hS64 (fun _ => by kernel_rfl) ?_
      refine AnyE.one 9 (by kernel_rfl) (fun w68 hu69 => ?_)
      have h70 := h63.call hu69
      have hS71 := hS64.up hu69
      obtain ⟨t76, hg75, h⟩ := of_bind h
      refine OpE.call 51 (by kernel_rfl) 24 #[.slice pA0 p0.length pc0] (by kernel_rfl) ((charabancref14_Make_24_ok K _ w68  pA0 pc0 p0 h70.old' (h70.get 0 rfl) hg75).mono ?_)
      rintro _ w72 ⟨A77, c78, rfl, hr80⟩
      refine ⟨_, rfl, ?_⟩
      have hb73 := hr80.below
      have h74 := h70.join hr80
      have hS81 := hS71.up hb73
      refine ⟨hS81, ?_⟩
      refine AnyE.one 10 (by kernel_rfl) (fun w82 hu83 => ?_)
      have h84 := h74.call hu83
      have hS85 := hS81.up hu83
      obtain ⟨t90, hg89, h⟩ := of_bind h
      refine OpE.call 52 (by kernel_rfl) 23 #[.slice A30 t29.length c31, .slice A77 t76.length c78] (by kernel_rfl) ((charabancref14_Same_23_ok K (fun _ => False) w82  A30 c31 A77 c78 t29 t76 (fun _ hf => hf.elim) (h84.slAny 3 rfl) (h84.ownSl 6 rfl) hg89).mono ?_)
      rintro _ w86 ⟨rfl, hb87⟩
      refine ⟨_, rfl, ?_⟩
      have h88 := h84.call hb87
      have hS91 := hS85.up hb87
      refine ⟨hS91, ?_⟩
      refine AnyE.pure 11 53 (.bool t90) (by kernel_rfl) hS91 (fun _ => by kernel_rfl) ?_
      refine AnyE.pure 12 54 (.bool t90) (by kernel_rfl) hS91 (fun _ => by kernel_rfl) ?_
      rcases of_cond h with ⟨hc92, h⟩ | ⟨hc92, h⟩
      ·skip
       refine AnyE.fix 54 true hc92 (by kernel_rfl) (by kernel_rfl) ?_
       refine AnyE.pure 13 55 (.int .i64 t41) (by kernel_rfl) hS91 (fun _ => by kernel_rfl) ?_
       refine AnyE.pure 14 56 (.bool (t41 == 0)) (by kernel_rfl) hS91 (fun _ => by kernel_rfl) ?_
       refine AnyE.pure 15 57 (.bool (t41 == 0)) (by kernel_rfl) hS91 (fun _ => by kernel_rfl) ?_
       refine AnyE.pure 16 58 (.bool (t41 == 0)) (by kernel_rfl) hS91 (fun _ => by kernel_rfl) ?_
       rcases of_cond h with ⟨hc93, h⟩ | ⟨hc93, h⟩
       ·skip
        refine AnyE.fix 58 true hc93 (by kernel_rfl) (by kernel_rfl) ?_
        refine AnyE.pure 17 59 (.int .i64 t52) (by kernel_rfl) hS91 (fun _ => by kernel_rfl) ?_
        refine AnyE.pure 18 60 (.bool (t52 == 0)) (by kernel_rfl) hS91 (fun _ => by kernel_rfl) ?_
        refine AnyE.pure 19 61 (.bool (t52 == 0)) (by kernel_rfl) hS91 (fun _ => by kernel_rfl) ?_
        refine AnyE.pure 20 62 (.bool (t52 == 0)) (by kernel_rfl) hS91 (fun _ => by kernel_rfl) ?_
        rcases of_cond h with ⟨hc94, h⟩ | ⟨hc94, h⟩
        ·skip
         refine AnyE.fix 62 true hc94 (by kernel_rfl) (by kernel_rfl) ?_
         refine AnyE.loadBox 21 63 5 25 b55 0 (.agg #[.int .u8 t46, .int .u16 t47, .slice A49 t48.length c50]) [] h63 rfl (by kernel_rfl) hS91 rfl rfl (by kernel_rfl) (by kernel_rfl) ?_
         refine AnyE.loadBox 23 65 1 25 b2 0 (.agg #[.int .u8 p1_0, .int .u16 p1_1, .slice pA1_2 p1_2.length pc1_2]) [] h63 rfl (by kernel_rfl) hS91 rfl rfl (by kernel_rfl) (by kernel_rfl) ?_
         refine AnyE.one 22 (by kernel_rfl) (fun w95 hu96 => ?_)
         have h97 := h88.call hu96
         have hS98 := hS91.up hu96
         obtain ⟨⟨t103, t104, t105⟩, hg102, h⟩ := of_bind h
         dsimp only at h
         refine OpE.call 64 (by kernel_rfl) 13 #[.agg #[.int .u8 t46, .int .u16 t47, .slice A49 t48.length c50]] (by kernel_rfl) ((charabanclaw33_plain_13_ok K _ w95  A49 c50 t46 t47 t48 h97.old' (h97.get 4 rfl) hg102).mono ?_)
         rintro _ w99 ⟨A106, c107, rfl, hr109⟩
         refine ⟨_, rfl, ?_⟩
         have hb100 := hr109.below
         have h101 := h97.join hr109
         have hS110 := hS98.up hb100
         refine ⟨hS110, ?_⟩
         refine AnyE.one 24 (by kernel_rfl) (fun w111 hu112 => ?_)
         have h113 := h101.call hu112
         have hS114 := hS110.up hu112
         obtain ⟨⟨t119, t120, t121⟩, hg118, h⟩ := of_bind h
         dsimp only at h
         refine OpE.call 66 (by kernel_rfl) 13 #[.agg #[.int .u8 p1_0, .int .u16 p1_1, .slice pA1_2 p1_2.length pc1_2]] (by kernel_rfl) ((charabanclaw33_plain_13_ok K _ w111  pA1_2 pc1_2 p1_0 p1_1 p1_2 h113.old' (h113.get 2 rfl) hg118).mono ?_)
         rintro _ w115 ⟨A122, c123, rfl, hr125⟩
         refine ⟨_, rfl, ?_⟩
         have hb116 := hr125.below
         have h117 := h113.join hr125
         have hS126 := hS114.up hb116
         refine ⟨hS126, ?_⟩
         refine AnyE.one 25 (by kernel_rfl) (fun w127 hu128 => ?_)
         have h129 := h117.call hu128
         have hS130 := hS126.up hu128
         obtain ⟨t135, hg134, h⟩ := of_bind h
         refine OpE.call 67 (by kernel_rfl) 16 #[.agg #[.int .u8 t103, .int .u16 t104, .slice A106 t105.length c107], .agg #[.int .u8 t119, .int .u16 t120, .slice A122 t121.length c123]] (by kernel_rfl) ((charabancref33_Same_16_ok K _ w127  A106 c107 A122 c123 t103 t104 t105 t119 t120 t121 h129.old' (h129.get 7 rfl) (h129.get 8 rfl) hg134).mono ?_)
         rintro _ w131 ⟨rfl, hb132⟩
         refine ⟨_, rfl, ?_⟩
         have h133 := h129.call hb132
         have hS136 := hS130.up hb132
         refine ⟨hS136, ?_⟩
         refine AnyE.pure 26 68 (.bool t135) (by kernel_rfl) hS136 (fun _ => by kernel_rfl) ?_
         refine AnyE.pure 27 69 (.bool t135) (by kernel_rfl) hS136 (fun _ => by kernel_rfl) ?_
         rcases of_cond h with ⟨hc137, h⟩ | ⟨hc137, h⟩
         ·skip
          refine AnyE.fix 69 true hc137 (by kernel_rfl) (by kernel_rfl) ?_
          refine AnyE.pure 28 70 (.string t40) (by kernel_rfl) hS136 (fun _ => by kernel_rfl) ?_
          refine AnyE.pure 29 71 (.int .i64 (t40.size : Int)) (by kernel_rfl) hS136 (fun _ => by kernel_rfl) ?_
          refine AnyE.pure 30 72 (.pointer (some ⟨b2, 2, none⟩)) (by kernel_rfl) hS136 (fun _ => by kernel_rfl) ?_
          refine AnyE.loadBox 31 73 1 23 b2 2 (.slice pA1_2 p1_2.length pc1_2) [] h63 rfl (by kernel_rfl) hS136 rfl rfl (by kernel_rfl) (by kernel_rfl) ?_
          refine AnyE.pure 32 74 (.int .i64 (p1_2.length : Int)) (by kernel_rfl) hS136 (fun _ => by kernel_rfl) ?_
          refine AnyE.pure 33 75 (.int .i64 (IntKind.wrap .i64 (2 * (p1_2.length : Int)))) (by kernel_rfl) hS136 (fun _ => by kernel_rfl) ?_
          refine AnyE.pure 34 76 (.int .i64 (IntKind.wrap .i64 (11 + (IntKind.wrap .i64 (2 * (p1_2.length : Int)))))) (by kernel_rfl) hS136 (fun _ => by kernel_rfl) ?_
          refine AnyE.pure 35 77 (.bool ((t40.size : Int) == (IntKind.wrap .i64 (11 + (IntKind.wrap .i64 (2 * (p1_2.length : Int))))))) (by kernel_rfl) hS136 (fun _ => by kernel_rfl) ?_
          refine AnyE.pure 36 78 (.bool ((t40.size : Int) == (IntKind.wrap .i64 (11 + (IntKind.wrap .i64 (2 * (p1_2.length : Int))))))) (by kernel_rfl) hS136 (fun _ => by kernel_rfl) ?_
          refine AnyE.pure 37 4 (.bool ((t40.size : Int) == (IntKind.wrap .i64 (11 + (IntKind.wrap .i64 (2 * (p1_2.length : Int))))))) (by kernel_rfl) hS136 (fun _ => by kernel_rfl) ?_
          refine AnyE.done (by kernel_rfl) (fun w138 hu139 => ?_)
          have h140 := h133.call hu139
          refine RunsI.l [4] [(4, .bool ((t40.size : Int) == (IntKind.wrap .i64 (11 + (IntKind.wrap .i64 (2 * (p1_2.length : Int)))))))] ?_
          refine RunsI.t (.bool ((t40.size : Int) == (IntKind.wrap .i64 (11 + (IntKind.wrap .i64 (2 * (p1_2.length : Int))))))) ?_
          obtain rfl := Option.some.inj h
          exact ⟨rfl, h140.below⟩
         ·skip
          refine AnyE.fix 69 false hc137 (by kernel_rfl) (by kernel_rfl) ?_
          refine AnyE.no 28 70 (by kernel_rfl) hS136 ?_
          refine AnyE.no 29 71 (by kernel_rfl) hS136 ?_
          refine AnyE.no 30 72 (by kernel_rfl) hS136 ?_
          refine AnyE.no 31 73 (by kernel_rfl) hS136 ?_
          refine AnyE.no 32 74 (by kernel_rfl) hS136 ?_
          refine AnyE.no 33 75 (by kernel_rfl) hS136 ?_
          refine AnyE.no 34 76 (by kernel_rfl) hS136 ?_
          refine AnyE.no 35 77 (by kernel_rfl) hS136 ?_
          refine AnyE.pure 36 78 (.bool false) (by kernel_rfl) hS136 (fun _ => by kernel_rfl) ?_
          refine AnyE.pure 37 4 (.bool false) (by kernel_rfl) hS136 (fun _ => by kernel_rfl) ?_
          refine AnyE.done (by kernel_rfl) (fun w141 hu142 => ?_)
          have h143 := h133.call hu142
          refine RunsI.l [4] [(4, .bool false)] ?_
          refine RunsI.t (.bool false) ?_
          obtain rfl := Option.some.inj h
          exact ⟨rfl, h143.below⟩
        ·skip
         refine AnyE.fix 62 false hc94 (by kernel_rfl) (by kernel_rfl) ?_
         refine AnyE.no 21 63 (by kernel_rfl) hS91 ?_
         refine AnyE.no 22 64 (by kernel_rfl) hS91 ?_
         refine AnyE.no 23 65 (by kernel_rfl) hS91 ?_
         refine AnyE.no 24 66 (by kernel_rfl) hS91 ?_
         refine AnyE.no 25 67 (by kernel_rfl) hS91 ?_
         refine AnyE.pure 26 68 (.bool false) (by kernel_rfl) hS91 (fun _ => by kernel_rfl) ?_
         refine AnyE.pure 27 69 (.bool false) (by kernel_rfl) hS91 (fun _ => by kernel_rfl) ?_
         refine AnyE.no 28 70 (by kernel_rfl) hS91 ?_
         refine AnyE.no 29 71 (by kernel_rfl) hS91 ?_
         refine AnyE.no 30 72 (by kernel_rfl) hS91 ?_
         refine AnyE.no 31 73 (by kernel_rfl) hS91 ?_
         refine AnyE.no 32 74 (by kernel_rfl) hS91 ?_
         refine AnyE.no 33 75 (by kernel_rfl) hS91 ?_
         refine AnyE.no 34 76 (by kernel_rfl) hS91 ?_
         refine AnyE.no 35 77 (by kernel_rfl) hS91 ?_
         refine AnyE.pure 36 78 (.bool false) (by kernel_rfl) hS91 (fun _ => by kernel_rfl) ?_
         refine AnyE.pure 37 4 (.bool false) (by kernel_rfl) hS91 (fun _ => by kernel_rfl) ?_
         refine AnyE.done (by kernel_rfl) (fun w144 hu145 => ?_)
         have h146 := h88.call hu145
         refine RunsI.l [4] [(4, .bool false)] ?_
         refine RunsI.t (.bool false) ?_
         obtain rfl := Option.some.inj h
         exact ⟨rfl, h146.below⟩
       ·skip
        refine AnyE.fix 58 false hc93 (by kernel_rfl) (by kernel_rfl) ?_
        refine AnyE.no 17 59 (by kernel_rfl) hS91 ?_
        refine AnyE.no 18 60 (by kernel_rfl) hS91 ?_
        refine AnyE.pure 19 61 (.bool false) (by kernel_rfl) hS91 (fun _ => by kernel_rfl) ?_
        refine AnyE.pure 20 62 (.bool false) (by kernel_rfl) hS91 (fun _ => by kernel_rfl) ?_
        refine AnyE.no 21 63 (by kernel_rfl) hS91 ?_
        refine AnyE.no 22 64 (by kernel_rfl) hS91 ?_
        refine AnyE.no 23 65 (by kernel_rfl) hS91 ?_
        refine AnyE.no 24 66 (by kernel_rfl) hS91 ?_
        refine AnyE.no 25 67 (by kernel_rfl) hS91 ?_
        refine AnyE.pure 26 68 (.bool false) (by kernel_rfl) hS91 (fun _ => by kernel_rfl) ?_
        refine AnyE.pure 27 69 (.bool false) (by kernel_rfl) hS91 (fun _ => by kernel_rfl) ?_
        refine AnyE.no 28 70 (by kernel_rfl) hS91 ?_
        refine AnyE.no 29 71 (by kernel_rfl) hS91 ?_
        refine AnyE.no 30 72 (by kernel_rfl) hS91 ?_
        refine AnyE.no 31 73 (by kernel_rfl) hS91 ?_
        refine AnyE.no 32 74 (by kernel_rfl) hS91 ?_
        refine AnyE.no 33 75 (by kernel_rfl) hS91 ?_
        refine AnyE.no 34 76 (by kernel_rfl) hS91 ?_
        refine AnyE.no 35 77 (by kernel_rfl) hS91 ?_
        refine AnyE.pure 36 78 (.bool false) (by kernel_rfl) hS91 (fun _ => by kernel_rfl) ?_
        refine AnyE.pure 37 4 (.bool false) (by kernel_rfl) hS91 (fun _ => by kernel_rfl) ?_
        refine AnyE.done (by kernel_rfl) (fun w147 hu148 => ?_)
        have h149 := h88.call hu148
        refine RunsI.l [4] [(4, .bool false)] ?_
        refine RunsI.t (.bool false) ?_
        obtain rfl := Option.some.inj h
        exact ⟨rfl, h149.below⟩
      ·skip
       refine AnyE.fix 54 false hc92 (by kernel_rfl) (by kernel_rfl) ?_
       refine AnyE.no 13 55 (by kernel_rfl) hS91 ?_
       refine AnyE.no 14 56 (by kernel_rfl) hS91 ?_
       refine AnyE.pure 15 57 (.bool false) (by kernel_rfl) hS91 (fun _ => by kernel_rfl) ?_
       refine AnyE.pure 16 58 (.bool false) (by kernel_rfl) hS91 (fun _ => by kernel_rfl) ?_
       refine AnyE.no 17 59 (by kernel_rfl) hS91 ?_
       refine AnyE.no 18 60 (by kernel_rfl) hS91 ?_
       refine AnyE.pure 19 61 (.bool false) (by kernel_rfl) hS91 (fun _ => by kernel_rfl) ?_
       refine AnyE.pure 20 62 (.bool false) (by kernel_rfl) hS91 (fun _ => by kernel_rfl) ?_
       refine AnyE.no 21 63 (by kernel_rfl) hS91 ?_
       refine AnyE.no 22 64 (by kernel_rfl) hS91 ?_
       refine AnyE.no 23 65 (by kernel_rfl) hS91 ?_
       refine AnyE.no 24 66 (by kernel_rfl) hS91 ?_
       refine AnyE.no 25 67 (by kernel_rfl) hS91 ?_
       refine AnyE.pure 26 68 (.bool false) (by kernel_rfl) hS91 (fun _ => by kernel_rfl) ?_
       refine AnyE.pure 27 69 (.bool false) (by kernel_rfl) hS91 (fun _ => by kernel_rfl) ?_
       refine AnyE.no 28 70 (by kernel_rfl) hS91 ?_
       refine AnyE.no 29 71 (by kernel_rfl) hS91 ?_
       refine AnyE.no 30 72 (by kernel_rfl) hS91 ?_
       refine AnyE.no 31 73 (by kernel_rfl) hS91 ?_
       refine AnyE.no 32 74 (by kernel_rfl) hS91 ?_
       refine AnyE.no 33 75 (by kernel_rfl) hS91 ?_
       refine AnyE.no 34 76 (by kernel_rfl) hS91 ?_
       refine AnyE.no 35 77 (by kernel_rfl) hS91 ?_
       refine AnyE.pure 36 78 (.bool false) (by kernel_rfl) hS91 (fun _ => by kernel_rfl) ?_
       refine AnyE.pure 37 4 (.bool false) (by kernel_rfl) hS91 (fun _ => by kernel_rfl) ?_
       refine AnyE.done (by kernel_rfl) (fun w150 hu151 => ?_)
       have h152 := h88.call hu151
       refine RunsI.l [4] [(4, .bool false)] ?_
       refine RunsI.t (.bool false) ?_
       obtain rfl := Option.some.inj h
       exact ⟨rfl, h152.below⟩
     ·skip
      refine AnyE.fix 48 false hc67 (by kernel_rfl) (by kernel_rfl) ?_
      refine AnyE.no 7 49 (by kernel_rfl) hS64 ?_
      refine AnyE.no 8 50 (by kernel_rfl) hS64 ?_
      refine AnyE.no 9 51 (by kernel_rfl) hS64 ?_
      refine AnyE.no 10 52 (by kernel_rfl) hS64 ?_
      refine AnyE.pure 11 53 (.bool false) (by kernel_rfl) hS64 (fun _ => by kernel_rfl) ?_
      refine AnyE.pure 12 54 (.bool false) (by kernel_rfl) hS64 (fun _ => by kernel_rfl) ?_
      refine AnyE.no 13 55 (by kernel_rfl) hS64 ?_
      refine AnyE.no 14 56 (by kernel_rfl) hS64 ?_
      refine AnyE.pure 15 57 (.bool false) (by kernel_rfl) hS64 (fun _ => by kernel_rfl) ?_
      refine AnyE.pure 16 58 (.bool false) (by kernel_rfl) hS64 (fun _ => by kernel_rfl) ?_
      refine AnyE.no 17 59 (by kernel_rfl) hS64 ?_
      refine AnyE.no 18 60 (by kernel_rfl) hS64 ?_
      refine AnyE.pure 19 61 (.bool false) (by kernel_rfl) hS64 (fun _ => by kernel_rfl) ?_
      refine AnyE.pure 20 62 (.bool false) (by kernel_rfl) hS64 (fun _ => by kernel_rfl) ?_
      refine AnyE.no 21 63 (by kernel_rfl) hS64 ?_
      refine AnyE.no 22 64 (by kernel_rfl) hS64 ?_
      refine AnyE.no 23 65 (by kernel_rfl) hS64 ?_
      refine AnyE.no 24 66 (by kernel_rfl) hS64 ?_
      refine AnyE.no 25 67 (by kernel_rfl) hS64 ?_
      refine AnyE.pure 26 68 (.bool false) (by kernel_rfl) hS64 (fun _ => by kernel_rfl) ?_
      refine AnyE.pure 27 69 (.bool false) (by kernel_rfl) hS64 (fun _ => by kernel_rfl) ?_
      refine AnyE.no 28 70 (by kernel_rfl) hS64 ?_
      refine AnyE.no 29 71 (by kernel_rfl) hS64 ?_
      refine AnyE.no 30 72 (by kernel_rfl) hS64 ?_
      refine AnyE.no 31 73 (by kernel_rfl) hS64 ?_
      refine AnyE.no 32 74 (by kernel_rfl) hS64 ?_
      refine AnyE.no 33 75 (by kernel_rfl) hS64 ?_
      refine AnyE.no 34 76 (by kernel_rfl) hS64 ?_
      refine AnyE.no 35 77 (by kernel_rfl) hS64 ?_
      refine AnyE.pure 36 78 (.bool false) (by kernel_rfl) hS64 (fun _ => by kernel_rfl) ?_
      refine AnyE.pure 37 4 (.bool false) (by kernel_rfl) hS64 (fun _ => by kernel_rfl) ?_
      refine AnyE.done (by kernel_rfl) (fun w153 hu154 => ?_)
      have h155 := h63.call hu154
      refine RunsI.l [4] [(4, .bool false)] ?_
      refine RunsI.t (.bool false) ?_
      obtain rfl := Option.some.inj h
      exact ⟨rfl, h155.below⟩
    ·skip
     refine AnyE.fix 44 false hc66 (by kernel_rfl) (by kernel_rfl) ?_
     refine AnyE.no 3 45 (by kernel_rfl) hS64 ?_
     refine AnyE.no 4 46 (by kernel_rfl) hS64 ?_
     refine AnyE.pure 5 47 (.bool false) (by kernel_rfl) hS64 (fun _ => by kernel_rfl) ?_
     refine AnyE.pure 6 48 (.bool false) (by kernel_rfl) hS64 (fun _ => by kernel_rfl) ?_
     refine AnyE.no 7 49 (by kernel_rfl) hS64 ?_
     refine AnyE.no 8 50 (by kernel_rfl) hS64 ?_
     refine AnyE.no 9 51 (by kernel_rfl) hS64 ?_
     refine AnyE.no 10 52 (by kernel_rfl) hS64 ?_
     refine AnyE.pure 11 53 (.bool false) (by kernel_rfl) hS64 (fun _ => by kernel_rfl) ?_
     refine AnyE.pure 12 54 (.bool false) (by kernel_rfl) hS64 (fun _ => by kernel_rfl) ?_
     refine AnyE.no 13 55 (by kernel_rfl) hS64 ?_
     refine AnyE.no 14 56 (by kernel_rfl) hS64 ?_
     refine AnyE.pure 15 57 (.bool false) (by kernel_rfl) hS64 (fun _ => by kernel_rfl) ?_
     refine AnyE.pure 16 58 (.bool false) (by kernel_rfl) hS64 (fun _ => by kernel_rfl) ?_
     refine AnyE.no 17 59 (by kernel_rfl) hS64 ?_
     refine AnyE.no 18 60 (by kernel_rfl) hS64 ?_
     refine AnyE.pure 19 61 (.bool false) (by kernel_rfl) hS64 (fun _ => by kernel_rfl) ?_
     refine AnyE.pure 20 62 (.bool false) (by kernel_rfl) hS64 (fun _ => by kernel_rfl) ?_
     refine AnyE.no 21 63 (by kernel_rfl) hS64 ?_
     refine AnyE.no 22 64 (by kernel_rfl) hS64 ?_
     refine AnyE.no 23 65 (by kernel_rfl) hS64 ?_
     refine AnyE.no 24 66 (by kernel_rfl) hS64 ?_
     refine AnyE.no 25 67 (by kernel_rfl) hS64 ?_
     refine AnyE.pure 26 68 (.bool false) (by kernel_rfl) hS64 (fun _ => by kernel_rfl) ?_
     refine AnyE.pure 27 69 (.bool false) (by kernel_rfl) hS64 (fun _ => by kernel_rfl) ?_
     refine AnyE.no 28 70 (by kernel_rfl) hS64 ?_
     refine AnyE.no 29 71 (by kernel_rfl) hS64 ?_
     refine AnyE.no 30 72 (by kernel_rfl) hS64 ?_
     refine AnyE.no 31 73 (by kernel_rfl) hS64 ?_
     refine AnyE.no 32 74 (by kernel_rfl) hS64 ?_
     refine AnyE.no 33 75 (by kernel_rfl) hS64 ?_
     refine AnyE.no 34 76 (by kernel_rfl) hS64 ?_
     refine AnyE.no 35 77 (by kernel_rfl) hS64 ?_
     refine AnyE.pure 36 78 (.bool false) (by kernel_rfl) hS64 (fun _ => by kernel_rfl) ?_
     refine AnyE.pure 37 4 (.bool false) (by kernel_rfl) hS64 (fun _ => by kernel_rfl) ?_
     refine AnyE.done (by kernel_rfl) (fun w156 hu157 => ?_)
     have h158 := h63.call hu157
     refine RunsI.l [4] [(4, .bool false)] ?_
     refine RunsI.t (.bool false) ?_
     obtain rfl := Option.some.inj h
     exact ⟨rfl, h158.below⟩
  clear hJ17
  rcases of_cond h with ⟨hc12, h⟩ | ⟨hc12, h⟩
  ·skip
   refine RegI.f 19 true hc12 ?_
   refine RegI.p 5 [(0, .slice pA0 p0.length pc0), (3, .pointer (some ⟨b2, 0, none⟩)), (24, .bool true)] ?_
   refine RegI.l [0, 3, 24] [(0, .slice pA0 p0.length pc0), (3, .pointer (some ⟨b2, 0, none⟩)), (24, .bool true)] ?_
   exact hj18 true w6 h (h8.pick [0, 2, 1] (by decide))
  ·skip
   refine RegI.f 19 false hc12 ?_
   refine RegI.p 1 [(0, .slice pA0 p0.length pc0), (3, .pointer (some ⟨b2, 0, none⟩)), (19, .bool false), (20, .pointer (some ⟨b2, 2, none⟩))] ?_
   refine RegI.o (OpE.loadBox 21 2 23 b2 2 (.slice pA1_2 p1_2.length pc1_2) h8 (by kernel_rfl) (by kernel_rfl) rfl (by kernel_rfl) ?_)
   refine RegI.p 3 [(0, .slice pA0 p0.length pc0), (3, .pointer (some ⟨b2, 0, none⟩)), (24, .bool (decide ((p1_2.length : Int) > 255)))] ?_
   refine RegI.l [0, 3, 24] [(0, .slice pA0 p0.length pc0), (3, .pointer (some ⟨b2, 0, none⟩)), (24, .bool (decide ((p1_2.length : Int) > 255)))] ?_
   exact hj18 (decide ((p1_2.length : Int) > 255)) w6 h (h8.pick [0, 2, 1] (by decide))
end
end Go.Proofs.YtilgjfckgkkfmaaDoor.Hx
