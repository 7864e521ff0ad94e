/- The statement's function CellsLoad as a plain Lean function; written by wip/eng.py. -/
import Derived.Test.YtbcepghanbkncaaCel2
set_option linter.unusedVariables false
set_option linter.unusedSimpArgs false
set_option maxHeartbeats 4000000
namespace Go.Proofs.Ytbcepghanbkncaa.Cel
open Go.RowKit Go.Eng
noncomputable def B4 : Code := (Try.f4.body).getD .skip
noncomputable def F4 : Fun Try.prog := ⟨4, Try.f4, B4, 62, Try.func4, by kernel_rfl, by kernel_rfl, [], none⟩

/-! ### charabanc/charabanclaw14.CellsLoad (function 4) -/
section
def charabanclaw14_CellsLoad_4.post (M0 : Nat → Prop) (w0 : World) (r : Bool) : Ending → World → Prop := fun e w => e = .returned (.bool r) ∧ Below w0.heap.size w0 w
def charabanclaw14_CellsLoad_4.f (K : Nat) (p0 : List (Int × Int)) (p1 : Int) (p2 : List Int) : Option Bool := (charabanclaw14_awake_7.f K).bind fun t5 => cond (!t5) (some false) (Let (fun (t8 : Bool) => cond t8 (some true) ((cells_Load_17.f K p0 p1 p2).bind fun t19 => (charabancref14_Load_18.f K p0 p1 p2).bind fun t36 => (charabancref14_Same_10.f K t19 t36).bind fun t50 => Let (fun (t137 : Bool) => cond t137 (some false) ((cells_Dump_19.f K t19 p1 (p2.length : Int)).bind fun t156 => cond ((ByteArray.toList (strOf t156)) == (ByteArray.toList (strOf p2))) ((cells_Dump_19.f K p0 p1 (-1)).bind fun t176 => some ((t176.length : Int) == 0)) (some false))) (fun j140 => cond (!t50) (j140 true) ((cells_Dump_19.f K p0 p1 (p2.length : Int)).bind fun t64 => (charabancref14_Dump_20.f K p0 p1 (p2.length : Int)).bind fun t83 => j140 (!((ByteArray.toList (strOf t64)) == (ByteArray.toList (strOf t83)))))))) (fun j11 => cond (decide ((p0.length : Int) > 40)) (j11 true) (j11 (decide ((p2.length : Int) > 60)))))
set_option maxRecDepth 100000 in
theorem charabanclaw14_CellsLoad_4_ok (K : Nat) (M0 : Nat → Prop) (w0 : World) (pA0 : Option Addr) (pc0 : Nat) (pA2 : Option Addr) (pc2 : Nat) (p0 : List (Int × Int)) (p1 : Int) (p2 : List Int) (ho : ∀ b, M0 b → b < w0.heap.size) (hs0 : Sl (Rp.pair (Rp.int .u16) (Rp.int .u8)) w0 M0 (.slice pA0 p0.length pc0) p0) (hs2 : Sl (Rp.int .u8) w0 M0 (.slice pA2 p2.length pc2) p2) {r : Bool} (h : charabanclaw14_CellsLoad_4.f K p0 p1 p2 = some r) :
  Calls Try.prog 4 #[.slice pA0 p0.length pc0, .int .u16 p1, .slice pA2 p2.length pc2] w0 (charabanclaw14_CellsLoad_4.post M0 w0 r) := by
 unfold charabanclaw14_CellsLoad_4.f at h
 have h0 : Holds M0 w0 w0 [] := Holds.start ho
 have h00 := h0.addSl (Rp.pair (Rp.int .u16) (Rp.int .u8)) (.slice pA0 p0.length pc0) p0 (hs0.mono (fun _ _ hm => hm.elim id (fun hm => absurd hm (by simp [mines, sl]))))
 have h02 := h00.addSl (Rp.int .u8) (.slice pA2 p2.length pc2) p2 (hs2.mono (fun _ _ hm => hm.elim id (fun hm => absurd hm (by simp [mines, sl]))))
 have h0 : Holds M0 w0 w0 [sl (Rp.pair (Rp.int .u16) (Rp.int .u8)) (.slice pA0 p0.length pc0) p0, sl (Rp.int .u8) (.slice pA2 p2.length pc2) p2] := h02
 refine calls_of F4 rfl [.slice pA0 p0.length pc0, .int .u16 p1, .slice pA2 p2.length pc2] (by kernel_rfl) ?_
 refine RunsI.g 1 [.c 1, .c 2] ?_
 refine RunsI.r ?_
 refine RegI.p 1 [(0, .slice pA0 p0.length pc0), (1, .int .u16 p1), (2, .slice pA2 p2.length pc2)] ?_
 refine RegI.d ?_
 refine RunsI.g 1 [.c 3, .c 4] ?_
 refine RunsI.r ?_
 obtain ⟨t5, hg4, h⟩ := of_bind h
 refine RegI.o (OpE.call 9 (by kernel_rfl) 7 #[] (by kernel_rfl) ((charabanclaw14_awake_7_ok K _ w0  h0.old' hg4).mono ?_))
 rintro _ w1 ⟨rfl, hb2⟩
 refine ⟨_, rfl, ?_⟩
 have h3 := h0.call hb2
 refine RegI.p 1 [(0, .slice pA0 p0.length pc0), (1, .int .u16 p1), (2, .slice pA2 p2.length pc2), (7, .bool t5)] ?_
 refine RegI.d ?_
 refine RunsI.g 2 [.c 6, .c 7, .c 12] ?_
 refine RunsI.r ?_
 refine RegI.p 2 [(0, .slice pA0 p0.length pc0), (1, .int .u16 p1), (2, .slice pA2 p2.length pc2), (11, .bool (!t5))] ?_
 refine RegI.d ?_
 rcases of_cond h with ⟨hc6, h⟩ | ⟨hc6, h⟩
 ·skip
  refine RunsI.f 11 true hc6 ?_
  refine RunsI.b true 8 ?_
  refine RunsI.g 1 [.c 9, .c 10, .c 12] ?_
  refine RunsI.r ?_
  refine RegI.p 1 [(6, .bool false)] ?_
  refine RegI.d ?_
  refine RunsI.t (.bool false) ?_
  obtain rfl := Option.some.inj h
  exact ⟨rfl, h3.below⟩
 ·skip
  refine RunsI.f 11 false hc6 ?_
  refine RunsI.b false 11 ?_
  refine RunsI.g 1 [.c 12] ?_
  refine RunsI.g 2 [.c 14, .c 15, .c 20] ?_
  refine RunsI.r ?_
  refine RegI.p 4 [(0, .slice pA0 p0.length pc0), (1, .int .u16 p1), (2, .slice pA2 p2.length pc2), (15, .bool (decide ((p0.length : Int) > 40)))] ?_
  obtain ⟨j11, hJ12, h⟩ := of_let h
  have hj13 : ∀ (t8 : Bool) (w10 : World), j11 t8 = some r → Holds M0 w0 w10 [sl (Rp.pair (Rp.int .u16) (Rp.int .u8)) (.slice pA0 p0.length pc0) p0, sl (Rp.int .u8) (.slice pA2 p2.length pc2) p2] → RegI F4 14 [.c 15, .c 20] 8 [(0, .slice pA0 p0.length pc0), (1, .int .u16 p1), (2, .slice pA2 p2.length pc2), (19, .bool t8)] w10 (charabanclaw14_CellsLoad_4.post M0 w0 r) := by
   intro t8 w10 h h9
   rw [hJ12] at h
   clear hJ12
   dsimp only at h
   refine RegI.d ?_
   rcases of_cond h with ⟨hc14, h⟩ | ⟨hc14, h⟩
   ·skip
    refine RunsI.f 19 true hc14 ?_
    refine RunsI.b true 16 ?_
    refine RunsI.g 1 [.c 17, .c 18, .c 20] ?_
    refine RunsI.r ?_
    refine RegI.p 1 [(6, .bool true)] ?_
    refine RegI.d ?_
    refine RunsI.t (.bool true) ?_
    obtain rfl := Option.some.inj h
    exact ⟨rfl, h9.below⟩
   ·skip
    refine RunsI.f 19 false hc14 ?_
    refine RunsI.b false 19 ?_
    refine RunsI.g 1 [.c 20] ?_
    refine RunsI.g 1 [.c 21, .c 22] ?_
    refine RunsI.r ?_
    refine RegI.p 3 [(0, .slice pA0 p0.length pc0), (1, .int .u16 p1), (2, .slice pA2 p2.length pc2), (20, .slice pA0 p0.length pc0), (21, .int .u16 p1), (22, .slice pA2 p2.length pc2)] ?_
    obtain ⟨t19, hg18, h⟩ := of_bind h
    refine RegI.o (OpE.call 23 (by kernel_rfl) 17 #[.slice pA0 p0.length pc0, .int .u16 p1, .slice pA2 p2.length pc2] (by kernel_rfl) ((cells_Load_17_ok K _ w10  pA0 pc0 pA2 pc2 p0 p1 p2 h9.old' (h9.get 0 rfl) (h9.get 1 rfl) hg18).mono ?_))
    rintro _ w15 ⟨A20, c21, rfl, hr23⟩
    refine ⟨_, rfl, ?_⟩
    have hb16 := hr23.below
    have h17 := h9.join hr23
    refine RegI.p 1 [(0, .slice pA0 p0.length pc0), (1, .int .u16 p1), (2, .slice pA2 p2.length pc2), (8, .slice A20 t19.length c21)] ?_
    refine RegI.d ?_
    refine RunsI.g 2 [.c 24, .c 25, .c 30] ?_
    refine RunsI.any 22 (by kernel_rfl) (by kernel_rfl) (by kernel_rfl) (Kp ([] : List Nat) (World.drew w15)) ?_
    have h25 := h17.drew
    generalize World.drew w15 = w24 at h25 ⊢
    have hS26 := Kp.refl ([] : List Nat) w24
    refine AnyE.pure 0 24 (.slice A20 t19.length c21) (by kernel_rfl) hS26 (fun _ => by kernel_rfl) ?_
    refine AnyE.pure 1 25 (.slice pA0 p0.length pc0) (by kernel_rfl) hS26 (fun _ => by kernel_rfl) ?_
    refine AnyE.pure 2 26 (.int .u16 p1) (by kernel_rfl) hS26 (fun _ => by kernel_rfl) ?_
    refine AnyE.pure 3 27 (.slice pA2 p2.length pc2) (by kernel_rfl) hS26 (fun _ => by kernel_rfl) ?_
    refine AnyE.one 4 (by kernel_rfl) (fun w28 hu29 => ?_)
    have h30 := h25.call hu29
    have hS31 := hS26.up hu29
    obtain ⟨t36, hg35, h⟩ := of_bind h
    refine OpE.call 28 (by kernel_rfl) 18 #[.slice pA0 p0.length pc0, .int .u16 p1, .slice pA2 p2.length pc2] (by kernel_rfl) ((charabancref14_Load_18_ok K _ w28  pA0 pc0 pA2 pc2 p0 p1 p2 h30.old' (h30.get 0 rfl) (h30.get 1 rfl) hg35).mono ?_)
    rintro _ w32 ⟨A37, c38, rfl, hr40⟩
    refine ⟨_, rfl, ?_⟩
    have hb33 := hr40.below
    have h34 := h30.join hr40
    have hS41 := hS31.up hb33
    refine ⟨hS41, ?_⟩
    refine AnyE.one 5 (by kernel_rfl) (fun w42 hu43 => ?_)
    have h44 := h34.call hu43
    have hS45 := hS41.up hu43
    obtain ⟨t50, hg49, h⟩ := of_bind h
    refine OpE.call 29 (by kernel_rfl) 10 #[.slice A20 t19.length c21, .slice A37 t36.length c38] (by kernel_rfl) ((charabancref14_Same_10_ok K (fun _ => False) w42  A20 c21 A37 c38 t19 t36 (fun _ hf => hf.elim) (h44.slAny 2 rfl) (h44.ownSl 3 rfl) hg49).mono ?_)
    rintro _ w46 ⟨rfl, hb47⟩
    refine ⟨_, rfl, ?_⟩
    have h48 := h44.call hb47
    have hS51 := hS45.up hb47
    refine ⟨hS51, ?_⟩
    refine AnyE.pure 6 30 (.bool (!t50)) (by kernel_rfl) hS51 (fun _ => by kernel_rfl) ?_
    refine AnyE.pure 7 31 (.bool (!t50)) (by kernel_rfl) hS51 (fun _ => by kernel_rfl) ?_
    obtain ⟨j140, hJ141, h⟩ := of_let h
    have hj142 : ∀ (t137 : Bool) (w139 : World), j140 t137 = some r → Holds M0 w0 w139 [sl (Rp.pair (Rp.int .u16) (Rp.int .u8)) (.slice pA0 p0.length pc0) p0, sl (Rp.int .u8) (.slice pA2 p2.length pc2) p2, sl (Rp.pair (Rp.int .u16) (Rp.int .u8)) (.slice A20 t19.length c21) t19] → RunsI F4 [.c 25, .c 30] [(0, .slice pA0 p0.length pc0), (1, .int .u16 p1), (2, .slice pA2 p2.length pc2), (8, .slice A20 t19.length c21), (45, .bool t137)] w139 (charabanclaw14_CellsLoad_4.post M0 w0 r) := by
     intro t137 w139 h h138
     rw [hJ141] at h
     clear hJ141
     dsimp only at h
     rcases of_cond h with ⟨hc143, h⟩ | ⟨hc143, h⟩
     ·skip
      refine RunsI.f 45 true hc143 ?_
      refine RunsI.b true 26 ?_
      refine RunsI.g 1 [.c 27, .c 28, .c 30] ?_
      refine RunsI.r ?_
      refine RegI.p 1 [(6, .bool false)] ?_
      refine RegI.d ?_
      refine RunsI.t (.bool false) ?_
      obtain rfl := Option.some.inj h
      exact ⟨rfl, h138.below⟩
     ·skip
      refine RunsI.f 45 false hc143 ?_
      refine RunsI.b false 29 ?_
      refine RunsI.g 1 [.c 30] ?_
      refine RunsI.g 1 [.c 31, .c 32] ?_
      refine RunsI.any 17 (by kernel_rfl) (by kernel_rfl) (by kernel_rfl) (Kp ([] : List Nat) (World.drew w139)) ?_
      have h145 := h138.drew
      generalize World.drew w139 = w144 at h145 ⊢
      have hS146 := Kp.refl ([] : List Nat) w144
      refine AnyE.pure 0 46 (.slice A20 t19.length c21) (by kernel_rfl) hS146 (fun _ => by kernel_rfl) ?_
      refine AnyE.pure 1 47 (.int .u16 p1) (by kernel_rfl) hS146 (fun _ => by kernel_rfl) ?_
      refine AnyE.pure 2 48 (.slice pA2 p2.length pc2) (by kernel_rfl) hS146 (fun _ => by kernel_rfl) ?_
      refine AnyE.pure 3 49 (.int .i64 (p2.length : Int)) (by kernel_rfl) hS146 (fun _ => by kernel_rfl) ?_
      refine AnyE.pure 6 52 (.slice pA2 p2.length pc2) (by kernel_rfl) hS146 (fun _ => by kernel_rfl) ?_
      refine AnyE.run 7 53 (.string (strOf p2)) (by kernel_rfl) hS146 (fun _ hk => run_toStr (s := 32) (d := 9) (v := .slice pA2 p2.length pc2) (by kernel_rfl) (by kernel_rfl) (h145.rdSlI [] rfl hk 1 rfl rfl)) ?_
      refine AnyE.one 4 (by kernel_rfl) (fun w148 hu149 => ?_)
      have h150 := h145.call hu149
      have hS151 := hS146.up hu149
      obtain ⟨t156, hg155, h⟩ := of_bind h
      refine OpE.call 50 (by kernel_rfl) 19 #[.slice A20 t19.length c21, .int .u16 p1, .int .i64 (p2.length : Int)] (by kernel_rfl) ((cells_Dump_19_ok K _ w148  A20 c21 t19 p1 (p2.length : Int) h150.old' (h150.get 2 rfl) hg155).mono ?_)
      rintro _ w152 ⟨A157, c158, rfl, hr160⟩
      refine ⟨_, rfl, ?_⟩
      have hb153 := hr160.below
      have h154 := h150.join hr160
      have hS161 := hS151.up hb153
      refine ⟨hS161, ?_⟩
      refine AnyE.one 5 (by kernel_rfl) (fun w162 hu163 => ?_)
      have h164 := h154.call hu163
      have hS165 := hS161.up hu163
      refine OpE.run 51 (by kernel_rfl) (run_toStr (s := 32) (d := 9) (v := .slice A157 t156.length c158) (by kernel_rfl) (by kernel_rfl) (h164.rdOwn 3 rfl)) ?_
      refine ⟨hS165, ?_⟩
      refine AnyE.pure 8 54 (.bool ((ByteArray.toList (strOf t156)) == (ByteArray.toList (strOf p2)))) (by kernel_rfl) hS165 (fun _ => by kernel_rfl) ?_
      refine AnyE.pure 9 55 (.bool ((ByteArray.toList (strOf t156)) == (ByteArray.toList (strOf p2)))) (by kernel_rfl) hS165 (fun _ => by kernel_rfl) ?_
      rcases of_cond h with ⟨hc167, h⟩ | ⟨hc167, h⟩
      ·skip
       refine AnyE.fix 55 true hc167 (by kernel_rfl) (by kernel_rfl) ?_
       refine AnyE.pure 10 56 (.slice pA0 p0.length pc0) (by kernel_rfl) hS165 (fun _ => by kernel_rfl) ?_
       refine AnyE.pure 11 57 (.int .u16 p1) (by kernel_rfl) hS165 (fun _ => by kernel_rfl) ?_
       refine AnyE.one 12 (by kernel_rfl) (fun w168 hu169 => ?_)
       have h170 := h164.call hu169
       have hS171 := hS165.up hu169
       obtain ⟨t176, hg175, h⟩ := of_bind h
       refine OpE.call 58 (by kernel_rfl) 19 #[.slice pA0 p0.length pc0, .int .u16 p1, .int .i64 (-1)] (by kernel_rfl) ((cells_Dump_19_ok K _ w168  pA0 pc0 p0 p1 (-1) h170.old' (h170.get 0 rfl) hg175).mono ?_)
       rintro _ w172 ⟨A177, c178, rfl, hr180⟩
       refine ⟨_, rfl, ?_⟩
       have hb173 := hr180.below
       have h174 := h170.join hr180
       have hS181 := hS171.up hb173
       refine ⟨hS181, ?_⟩
       refine AnyE.pure 13 59 (.int .i64 (t176.length : Int)) (by kernel_rfl) hS181 (fun _ => by kernel_rfl) ?_
       refine AnyE.pure 14 60 (.bool ((t176.length : Int) == 0)) (by kernel_rfl) hS181 (fun _ => by kernel_rfl) ?_
       refine AnyE.pure 15 61 (.bool ((t176.length : Int) == 0)) (by kernel_rfl) hS181 (fun _ => by kernel_rfl) ?_
       refine AnyE.pure 16 6 (.bool ((t176.length : Int) == 0)) (by kernel_rfl) hS181 (fun _ => by kernel_rfl) ?_
       refine AnyE.done (by kernel_rfl) (fun w182 hu183 => ?_)
       have h184 := h174.call hu183
       refine RunsI.l [6] [(6, .bool ((t176.length : Int) == 0))] ?_
       refine RunsI.t (.bool ((t176.length : Int) == 0)) ?_
       obtain rfl := Option.some.inj h
       exact ⟨rfl, h184.below⟩
      ·skip
       refine AnyE.fix 55 false hc167 (by kernel_rfl) (by kernel_rfl) ?_
       refine AnyE.no 10 56 (by kernel_rfl) hS165 ?_
       refine AnyE.no 11 57 (by kernel_rfl) hS165 ?_
       refine AnyE.no 12 58 (by kernel_rfl) hS165 ?_
       refine AnyE.no 13 59 (by kernel_rfl) hS165 ?_
       refine AnyE.no 14 60 (by kernel_rfl) hS165 ?_
       refine AnyE.pure 15 61 (.bool false) (by kernel_rfl) hS165 (fun _ => by kernel_rfl) ?_
       refine AnyE.pure 16 6 (.bool false) (by kernel_rfl) hS165 (fun _ => by kernel_rfl) ?_
       refine AnyE.done (by kernel_rfl) (fun w185 hu186 => ?_)
       have h187 := h164.call hu186
       refine RunsI.l [6] [(6, .bool false)] ?_
       refine RunsI.t (.bool false) ?_
       obtain rfl := Option.some.inj h
       exact ⟨rfl, h187.below⟩
    clear hJ141
    rcases of_cond h with ⟨hc52, h⟩ | ⟨hc52, h⟩
    ·skip
     refine AnyE.fix 31 true hc52 (by kernel_rfl) (by kernel_rfl) ?_
     refine AnyE.no 8 32 (by kernel_rfl) hS51 ?_
     refine AnyE.no 9 33 (by kernel_rfl) hS51 ?_
     refine AnyE.no 10 34 (by kernel_rfl) hS51 ?_
     refine AnyE.no 11 35 (by kernel_rfl) hS51 ?_
     refine AnyE.no 12 36 (by kernel_rfl) hS51 ?_
     refine AnyE.no 13 37 (by kernel_rfl) hS51 ?_
     refine AnyE.no 14 38 (by kernel_rfl) hS51 ?_
     refine AnyE.no 15 39 (by kernel_rfl) hS51 ?_
     refine AnyE.no 16 40 (by kernel_rfl) hS51 ?_
     refine AnyE.no 17 41 (by kernel_rfl) hS51 ?_
     refine AnyE.no 18 42 (by kernel_rfl) hS51 ?_
     refine AnyE.no 19 43 (by kernel_rfl) hS51 ?_
     refine AnyE.no 20 44 (by kernel_rfl) hS51 ?_
     refine AnyE.pure 21 45 (.bool true) (by kernel_rfl) hS51 (fun _ => by kernel_rfl) ?_
     refine AnyE.done (by kernel_rfl) (fun w53 hu54 => ?_)
     have h55 := h48.call hu54
     refine RunsI.l [0, 1, 2, 8, 45] [(0, .slice pA0 p0.length pc0), (1, .int .u16 p1), (2, .slice pA2 p2.length pc2), (8, .slice A20 t19.length c21), (45, .bool true)] ?_
     refine RunsI.l [0, 1, 2, 8, 45] [(0, .slice pA0 p0.length pc0), (1, .int .u16 p1), (2, .slice pA2 p2.length pc2), (8, .slice A20 t19.length c21), (45, .bool true)] ?_
     exact hj142 true w53 h (h55.pick [0, 1, 2] (by decide))
    ·skip
     refine AnyE.fix 31 false hc52 (by kernel_rfl) (by kernel_rfl) ?_
     refine AnyE.pure 8 32 (.slice pA0 p0.length pc0) (by kernel_rfl) hS51 (fun _ => by kernel_rfl) ?_
     refine AnyE.pure 9 33 (.int .u16 p1) (by kernel_rfl) hS51 (fun _ => by kernel_rfl) ?_
     refine AnyE.pure 10 34 (.slice pA2 p2.length pc2) (by kernel_rfl) hS51 (fun _ => by kernel_rfl) ?_
     refine AnyE.pure 11 35 (.int .i64 (p2.length : Int)) (by kernel_rfl) hS51 (fun _ => by kernel_rfl) ?_
     refine AnyE.pure 14 38 (.slice pA0 p0.length pc0) (by kernel_rfl) hS51 (fun _ => by kernel_rfl) ?_
     refine AnyE.pure 15 39 (.int .u16 p1) (by kernel_rfl) hS51 (fun _ => by kernel_rfl) ?_
     refine AnyE.pure 16 40 (.slice pA2 p2.length pc2) (by kernel_rfl) hS51 (fun _ => by kernel_rfl) ?_
     refine AnyE.pure 17 41 (.int .i64 (p2.length : Int)) (by kernel_rfl) hS51 (fun _ => by kernel_rfl) ?_
     refine AnyE.one 12 (by kernel_rfl) (fun w56 hu57 => ?_)
     have h58 := h48.call hu57
     have hS59 := hS51.up hu57
     obtain ⟨t64, hg63, h⟩ := of_bind h
     refine OpE.call 36 (by kernel_rfl) 19 #[.slice pA0 p0.length pc0, .int .u16 p1, .int .i64 (p2.length : Int)] (by kernel_rfl) ((cells_Dump_19_ok K _ w56  pA0 pc0 p0 p1 (p2.length : Int) h58.old' (h58.get 0 rfl) hg63).mono ?_)
     rintro _ w60 ⟨A65, c66, rfl, hr68⟩
     refine ⟨_, rfl, ?_⟩
     have hb61 := hr68.below
     have h62 := h58.join hr68
     have hS69 := hS59.up hb61
     refine ⟨hS69, ?_⟩
     refine AnyE.two 13 18 (by kernel_rfl) ?_ ?_
     ·skip
      intro w70 hu71
      have h72 := h62.call hu71
      have hS73 := hS69.up hu71
      refine OpE.run 37 (by kernel_rfl) (run_toStr (s := 32) (d := 9) (v := .slice A65 t64.length c66) (by kernel_rfl) (by kernel_rfl) (h72.rdOwn 4 rfl)) ?_
      refine ⟨hS73, ?_⟩
      refine AnyE.one 18 (by kernel_rfl) (fun w75 hu76 => ?_)
      have h77 := h72.call hu76
      have hS78 := hS73.up hu76
      obtain ⟨t83, hg82, h⟩ := of_bind h
      refine OpE.call 42 (by kernel_rfl) 20 #[.slice pA0 p0.length pc0, .int .u16 p1, .int .i64 (p2.length : Int)] (by kernel_rfl) ((charabancref14_Dump_20_ok K _ w75  pA0 pc0 p0 p1 (p2.length : Int) h77.old' (h77.get 0 rfl) hg82).mono ?_)
      rintro _ w79 ⟨A84, c85, rfl, hr87⟩
      refine ⟨_, rfl, ?_⟩
      have hb80 := hr87.below
      have h81 := h77.join hr87
      have hS88 := hS78.up hb80
      refine ⟨hS88, ?_⟩
      refine AnyE.one 19 (by kernel_rfl) (fun w89 hu90 => ?_)
      have h91 := h81.call hu90
      have hS92 := hS88.up hu90
      refine OpE.run 43 (by kernel_rfl) (run_toStr (s := 32) (d := 9) (v := .slice A84 t83.length c85) (by kernel_rfl) (by kernel_rfl) (h91.rdOwn 5 rfl)) ?_
      refine ⟨hS92, ?_⟩
      refine AnyE.pure 20 44 (.bool (!((ByteArray.toList (strOf t64)) == (ByteArray.toList (strOf t83))))) (by kernel_rfl) hS92 (fun _ => by kernel_rfl) ?_
      refine AnyE.pure 21 45 (.bool (!((ByteArray.toList (strOf t64)) == (ByteArray.toList (strOf t83))))) (by kernel_rfl) hS92 (fun _ => by kernel_rfl) ?_
      refine AnyE.done (by kernel_rfl) (fun w94 hu95 => ?_)
      have h96 := h91.call hu95
      refine RunsI.l [0, 1, 2, 8, 45] [(0, .slice pA0 p0.length pc0), (1, .int .u16 p1), (2, .slice pA2 p2.length pc2), (8, .slice A20 t19.length c21), (45, .bool (!((ByteArray.toList (strOf t64)) == (ByteArray.toList (strOf t83)))))] ?_
      refine RunsI.l [0, 1, 2, 8, 45] [(0, .slice pA0 p0.length pc0), (1, .int .u16 p1), (2, .slice pA2 p2.length pc2), (8, .slice A20 t19.length c21), (45, .bool (!((ByteArray.toList (strOf t64)) == (ByteArray.toList (strOf t83)))))] ?_
      exact hj142 (!((ByteArray.toList (strOf t64)) == (ByteArray.toList (strOf t83)))) w94 h (h96.pick [0, 1, 2] (by decide))
     ·skip
      intro w97 hu98
      have h99 := h62.call hu98
      have hS100 := hS69.up hu98
      obtain ⟨t105, hg104, h⟩ := of_bind h
      refine OpE.call 42 (by kernel_rfl) 20 #[.slice pA0 p0.length pc0, .int .u16 p1, .int .i64 (p2.length : Int)] (by kernel_rfl) ((charabancref14_Dump_20_ok K _ w97  pA0 pc0 p0 p1 (p2.length : Int) h99.old' (h99.get 0 rfl) hg104).mono ?_)
      rintro _ w101 ⟨A106, c107, rfl, hr109⟩
      refine ⟨_, rfl, ?_⟩
      have hb102 := hr109.below
      have h103 := h99.join hr109
      have hS110 := hS100.up hb102
      refine ⟨hS110, ?_⟩
      refine AnyE.two 13 19 (by kernel_rfl) ?_ ?_
      ·skip
       intro w111 hu112
       have h113 := h103.call hu112
       have hS114 := hS110.up hu112
       refine OpE.run 37 (by kernel_rfl) (run_toStr (s := 32) (d := 9) (v := .slice A65 t64.length c66) (by kernel_rfl) (by kernel_rfl) (h113.rdOwn 4 rfl)) ?_
       refine ⟨hS114, ?_⟩
       refine AnyE.one 19 (by kernel_rfl) (fun w116 hu117 => ?_)
       have h118 := h113.call hu117
       have hS119 := hS114.up hu117
       refine OpE.run 43 (by kernel_rfl) (run_toStr (s := 32) (d := 9) (v := .slice A106 t105.length c107) (by kernel_rfl) (by kernel_rfl) (h118.rdOwn 5 rfl)) ?_
       refine ⟨hS119, ?_⟩
       refine AnyE.pure 20 44 (.bool (!((ByteArray.toList (strOf t64)) == (ByteArray.toList (strOf t105))))) (by kernel_rfl) hS119 (fun _ => by kernel_rfl) ?_
       refine AnyE.pure 21 45 (.bool (!((ByteArray.toList (strOf t64)) == (ByteArray.toList (strOf t105))))) (by kernel_rfl) hS119 (fun _ => by kernel_rfl) ?_
       refine AnyE.done (by kernel_rfl) (fun w121 hu122 => ?_)
       have h123 := h118.call hu122
       refine RunsI.l [0, 1, 2, 8, 45] [(0, .slice pA0 p0.length pc0), (1, .int .u16 p1), (2, .slice pA2 p2.length pc2), (8, .slice A20 t19.length c21), (45, .bool (!((ByteArray.toList (strOf t64)) == (ByteArray.toList (strOf t105)))))] ?_
       refine RunsI.l [0, 1, 2, 8, 45] [(0, .slice pA0 p0.length pc0), (1, .int .u16 p1), (2, .slice pA2 p2.length pc2), (8, .slice A20 t19.length c21), (45, .bool (!((ByteArray.toList (strOf t64)) == (ByteArray.toList (strOf t105)))))] ?_
       exact hj142 (!((ByteArray.toList (strOf t64)) == (ByteArray.toList (strOf t105)))) w121 h (h123.pick [0, 1, 2] (by decide))
      ·skip
       intro w124 hu125
       have h126 := h103.call hu125
       have hS127 := hS110.up hu125
       refine OpE.run 43 (by kernel_rfl) (run_toStr (s := 32) (d := 9) (v := .slice A106 t105.length c107) (by kernel_rfl) (by kernel_rfl) (h126.rdOwn 5 rfl)) ?_
       refine ⟨hS127, ?_⟩
       refine AnyE.one 13 (by kernel_rfl) (fun w129 hu130 => ?_)
       have h131 := h126.call hu130
       have hS132 := hS127.up hu130
       refine OpE.run 37 (by kernel_rfl) (run_toStr (s := 32) (d := 9) (v := .slice A65 t64.length c66) (by kernel_rfl) (by kernel_rfl) (h131.rdOwn 4 rfl)) ?_
       refine ⟨hS132, ?_⟩
       refine AnyE.pure 20 44 (.bool (!((ByteArray.toList (strOf t64)) == (ByteArray.toList (strOf t105))))) (by kernel_rfl) hS132 (fun _ => by kernel_rfl) ?_
       refine AnyE.pure 21 45 (.bool (!((ByteArray.toList (strOf t64)) == (ByteArray.toList (strOf t105))))) (by kernel_rfl) hS132 (fun _ => by kernel_rfl) ?_
       refine AnyE.done (by kernel_rfl) (fun w134 hu135 => ?_)
       have h136 := h131.call hu135
       refine RunsI.l [0, 1, 2, 8, 45] [(0, .slice pA0 p0.length pc0), (1, .int .u16 p1), (2, .slice pA2 p2.length pc2), (8, .slice A20 t19.length c21), (45, .bool (!((ByteArray.toList (strOf t64)) == (ByteArray.toList (strOf t105)))))] ?_
       refine RunsI.l [0, 1, 2, 8, 45] [(0, .slice pA0 p0.length pc0), (1, .int .u16 p1), (2, .slice pA2 p2.length pc2), (8, .slice A20 t19.length c21), (45, .bool (!((ByteArray.toList (strOf t64)) == (ByteArray.toList (strOf t105)))))] ?_
       exact hj142 (!((ByteArray.toList (strOf t64)) == (ByteArray.toList (strOf t105)))) w134 h (h136.pick [0, 1, 2] (by decide))
  clear hJ12
  rcases of_cond h with ⟨hc7, h⟩ | ⟨hc7, h⟩
  ·skip
   refine RegI.f 15 true hc7 ?_
   refine RegI.p 4 [(0, .slice pA0 p0.length pc0), (1, .int .u16 p1), (2, .slice pA2 p2.length pc2), (19, .bool true)] ?_
   refine RegI.l [0, 1, 2, 19] [(0, .slice pA0 p0.length pc0), (1, .int .u16 p1), (2, .slice pA2 p2.length pc2), (19, .bool true)] ?_
   exact hj13 true w1 h (h3.pick [0, 1] (by decide))
  ·skip
   refine RegI.f 15 false hc7 ?_
   refine RegI.p 4 [(0, .slice pA0 p0.length pc0), (1, .int .u16 p1), (2, .slice pA2 p2.length pc2), (19, .bool (decide ((p2.length : Int) > 60)))] ?_
   refine RegI.l [0, 1, 2, 19] [(0, .slice pA0 p0.length pc0), (1, .int .u16 p1), (2, .slice pA2 p2.length pc2), (19, .bool (decide ((p2.length : Int) > 60)))] ?_
   exact hj13 (decide ((p2.length : Int) > 60)) w1 h (h3.pick [0, 1] (by decide))
end
end Go.Proofs.Ytbcepghanbkncaa.Cel
