/- The statement's function ImageShows as a plain Lean function; written by wip/eng.py. -/
import Derived.Test.YtbcepghanbkncaaDoorIm4
set_option linter.unusedVariables false
set_option linter.unusedSimpArgs false
set_option maxHeartbeats 4000000
namespace Go.Proofs.YtbcepghanbkncaaDoor.Im
open Go.RowKit Go.Eng
noncomputable def B4 : Code := (Tryd.f4.body).getD .skip
noncomputable def F4 : Fun Tryd.prog := ⟨4, Tryd.f4, B4, 26, Tryd.func4, by kernel_rfl, by kernel_rfl, [], none⟩

/-! ### charabanc/charabanclaw30.ImageShows (function 4) -/
section
def charabanclaw30_ImageShows_4.post (M0 : Nat → Prop) (w0 : World) (r : Bool) : Ending → World → Prop := fun e w => e = .returned (.bool r) ∧ Below w0.heap.size w0 w
def charabanclaw30_ImageShows_4.f (K : Nat) (p0_0_0 : List Int) (p0_0_1 : Int) (p0_0_2 : Int) (p0_0_3 : List (Int × Int)) (p0_1 : Int) : Option Bool := (charabanclaw30_awake_6.f K).bind fun t10 => cond (!t10) (some false) ((charabanclaw30_few_15.f K p0_0_0 p0_0_1 p0_0_2 p0_0_3 p0_1).bind fun t16 => cond (!t16) (some true) ((image_Show_16.f K p0_0_0 p0_0_1 p0_0_2 p0_0_3 p0_1).bind fun t23 => (charabanclaw30_plain_12.f K p0_0_0 p0_0_1 p0_0_2 p0_0_3 p0_1).bind fun yt32 => (charabancref30_Show_17.f K yt32.1 yt32.2.1 yt32.2.2.1 yt32.2.2.2.1 yt32.2.2.2.2).bind fun t53 => cond ((ByteArray.toList t23) == (ByteArray.toList t53)) ((image_Check_18.f K p0_0_0 p0_0_1 p0_0_2 p0_0_3 p0_1).bind fun t57 => (charabanclaw30_plain_12.f K p0_0_0 p0_0_1 p0_0_2 p0_0_3 p0_1).bind fun yt66 => (charabancref30_Check_19.f K yt66.1 yt66.2.1 yt66.2.2.1 yt66.2.2.2.1 yt66.2.2.2.2).bind fun t87 => some (t57 == t87)) (some false)))
set_option maxRecDepth 100000 in
theorem charabanclaw30_ImageShows_4_ok (K : Nat) (M0 : Nat → Prop) (w0 : World) (pA0_0_0 : Option Addr) (pc0_0_0 : Nat) (pA0_0_3 : Option Addr) (pc0_0_3 : Nat) (p0_0_0 : List Int) (p0_0_1 : Int) (p0_0_2 : Int) (p0_0_3 : List (Int × Int)) (p0_1 : Int) (ho : ∀ b, M0 b → b < w0.heap.size) (hs0_0_0 : Sl (Rp.int .u8) w0 M0 (.slice pA0_0_0 p0_0_0.length pc0_0_0) p0_0_0) (hs0_0_3 : Sl (Rp.pair (Rp.int .i64) (Rp.int .u8)) w0 M0 (.slice pA0_0_3 p0_0_3.length pc0_0_3) p0_0_3) (hG1 : (gl 1 (tab_1.flatMap en_1)).ok w0 M0) (hG4 : (gl 4 (tab_4.flatMap en_4)).ok w0 M0) (hG5 : (gl 5 (tab_5.flatMap en_5)).ok w0 M0) {r : Bool} (h : charabanclaw30_ImageShows_4.f K p0_0_0 p0_0_1 p0_0_2 p0_0_3 p0_1 = some r) :
  Calls Tryd.prog 4 #[.agg #[.slice pA0_0_0 p0_0_0.length pc0_0_0, .int .i64 p0_0_1, .int .i64 p0_0_2, .slice pA0_0_3 p0_0_3.length pc0_0_3, .int .u16 p0_1]] w0 (charabanclaw30_ImageShows_4.post M0 w0 r) := by
 unfold charabanclaw30_ImageShows_4.f at h
 have h0 : Holds M0 w0 w0 [] := Holds.start ho
 have h00_0_0 := h0.addSl (Rp.int .u8) (.slice pA0_0_0 p0_0_0.length pc0_0_0) p0_0_0 (hs0_0_0.mono (fun _ _ hm => hm.elim id (fun hm => absurd hm (by simp [mines, sl]))))
 have h00_0_3 := h00_0_0.addSl (Rp.pair (Rp.int .i64) (Rp.int .u8)) (.slice pA0_0_3 p0_0_3.length pc0_0_3) p0_0_3 (hs0_0_3.mono (fun _ _ hm => hm.elim id (fun hm => absurd hm (by simp [mines, sl]))))
 have h0g1 := h00_0_3.add (gl 1 (tab_1.flatMap en_1)) rfl ⟨hG1.1, fun hm => hG1.2.1 (hm.elim id (fun hm => absurd hm (by simp [mines, sl, gl]))), hG1.2.2⟩
 have h0g4 := h0g1.add (gl 4 (tab_4.flatMap en_4)) rfl ⟨hG4.1, fun hm => hG4.2.1 (hm.elim id (fun hm => absurd hm (by simp [mines, sl, gl]))), hG4.2.2⟩
 have h0g5 := h0g4.add (gl 5 (tab_5.flatMap en_5)) rfl ⟨hG5.1, fun hm => hG5.2.1 (hm.elim id (fun hm => absurd hm (by simp [mines, sl, gl]))), hG5.2.2⟩
 have h0 : Holds M0 w0 w0 [sl (Rp.int .u8) (.slice pA0_0_0 p0_0_0.length pc0_0_0) p0_0_0, sl (Rp.pair (Rp.int .i64) (Rp.int .u8)) (.slice pA0_0_3 p0_0_3.length pc0_0_3) p0_0_3, gl 1 (tab_1.flatMap en_1), gl 4 (tab_4.flatMap en_4), gl 5 (tab_5.flatMap en_5)] := h0g5
 refine calls_of F4 rfl [.agg #[.slice pA0_0_0 p0_0_0.length pc0_0_0, .int .i64 p0_0_1, .int .i64 p0_0_2, .slice pA0_0_3 p0_0_3.length pc0_0_3, .int .u16 p0_1]] (by kernel_rfl) ?_
 refine RunsI.g 1 [.c 1, .c 2] ?_
 refine RunsI.r ?_
 refine RegI.o (OpE.box 1 29 [.slice pA0_0_0 p0_0_0.length pc0_0_0, .int .i64 p0_0_1, .int .i64 p0_0_2, .slice pA0_0_3 p0_0_3.length pc0_0_3, .int .u16 p0_1] h0 (by kernel_rfl) (by kernel_rfl) ?_)
 intro w1 b2 h3 hb4 hn5
 refine RegI.p 1 [(1, .pointer (some ⟨b2, 0, none⟩))] ?_
 refine RegI.d ?_
 refine RunsI.g 1 [.c 3, .c 4] ?_
 refine RunsI.r ?_
 obtain ⟨t10, hg9, h⟩ := of_bind h
 refine RegI.o (OpE.call 5 (by kernel_rfl) 6 #[] (by kernel_rfl) ((charabanclaw30_awake_6_ok K _ w1  h3.old' (h3.get 2 rfl) (h3.get 3 rfl) (h3.get 4 rfl) hg9).mono ?_))
 rintro _ w6 ⟨rfl, hb7⟩
 refine ⟨_, rfl, ?_⟩
 have h8 := h3.call hb7
 refine RegI.p 1 [(1, .pointer (some ⟨b2, 0, none⟩)), (3, .bool t10)] ?_
 refine RegI.d ?_
 refine RunsI.g 2 [.c 6, .c 7, .c 12] ?_
 refine RunsI.r ?_
 refine RegI.p 2 [(1, .pointer (some ⟨b2, 0, none⟩)), (7, .bool (!t10))] ?_
 refine RegI.d ?_
 rcases of_cond h with ⟨hc11, h⟩ | ⟨hc11, h⟩
 ·skip
  refine RunsI.f 7 true hc11 ?_
  refine RunsI.b true 8 ?_
  refine RunsI.g 1 [.c 9, .c 10, .c 12] ?_
  refine RunsI.r ?_
  refine RegI.p 1 [(2, .bool false)] ?_
  refine RegI.d ?_
  refine RunsI.t (.bool false) ?_
  obtain rfl := Option.some.inj h
  exact ⟨rfl, h8.below⟩
 ·skip
  refine RunsI.f 7 false hc11 ?_
  refine RunsI.b false 11 ?_
  refine RunsI.g 1 [.c 12] ?_
  refine RunsI.g 1 [.c 13, .c 14] ?_
  refine RunsI.r ?_
  refine RegI.o (OpE.loadBox 8 5 29 b2 0 (.agg #[.slice pA0_0_0 p0_0_0.length pc0_0_0, .int .i64 p0_0_1, .int .i64 p0_0_2, .slice pA0_0_3 p0_0_3.length pc0_0_3, .int .u16 p0_1]) h8 (by kernel_rfl) (by kernel_rfl) rfl (by kernel_rfl) ?_)
  obtain ⟨t16, hg15, h⟩ := of_bind h
  refine RegI.o (OpE.call 9 (by kernel_rfl) 15 #[.agg #[.slice pA0_0_0 p0_0_0.length pc0_0_0, .int .i64 p0_0_1, .int .i64 p0_0_2, .slice pA0_0_3 p0_0_3.length pc0_0_3, .int .u16 p0_1]] (by kernel_rfl) ((charabanclaw30_few_15_ok K _ w6  pA0_0_0 pc0_0_0 pA0_0_3 pc0_0_3 p0_0_0 p0_0_1 p0_0_2 p0_0_3 p0_1 h8.old' (h8.get 0 rfl) (h8.get 1 rfl) hg15).mono ?_))
  rintro _ w12 ⟨rfl, hb13⟩
  refine ⟨_, rfl, ?_⟩
  have h14 := h8.call hb13
  refine RegI.p 1 [(1, .pointer (some ⟨b2, 0, none⟩)), (4, .bool t16)] ?_
  refine RegI.d ?_
  refine RunsI.g 2 [.c 16, .c 17, .c 22] ?_
  refine RunsI.r ?_
  refine RegI.p 2 [(1, .pointer (some ⟨b2, 0, none⟩)), (11, .bool (!t16))] ?_
  refine RegI.d ?_
  rcases of_cond h with ⟨hc17, h⟩ | ⟨hc17, h⟩
  ·skip
   refine RunsI.f 11 true hc17 ?_
   refine RunsI.b true 18 ?_
   refine RunsI.g 1 [.c 19, .c 20, .c 22] ?_
   refine RunsI.r ?_
   refine RegI.p 1 [(2, .bool true)] ?_
   refine RegI.d ?_
   refine RunsI.t (.bool true) ?_
   obtain rfl := Option.some.inj h
   exact ⟨rfl, h14.below⟩
  ·skip
   refine RunsI.f 11 false hc17 ?_
   refine RunsI.b false 21 ?_
   refine RunsI.g 1 [.c 22] ?_
   refine RunsI.g 1 [.c 23, .c 24] ?_
   refine RunsI.any 15 (by kernel_rfl) (by kernel_rfl) (by kernel_rfl) (Kp ([] : List Nat) (World.drew w12)) ?_
   have h19 := h14.drew
   generalize World.drew w12 = w18 at h19 ⊢
   have hS20 := Kp.refl ([] : List Nat) w18
   refine AnyE.loadBox 0 12 5 29 b2 0 (.agg #[.slice pA0_0_0 p0_0_0.length pc0_0_0, .int .i64 p0_0_1, .int .i64 p0_0_2, .slice pA0_0_3 p0_0_3.length pc0_0_3, .int .u16 p0_1]) [] h19 rfl (by kernel_rfl) hS20 rfl rfl (by kernel_rfl) (by kernel_rfl) ?_
   obtain ⟨t23, hg22, h⟩ := of_bind h
   refine AnyE.call 1 13 (.string t23) 16 #[.agg #[.slice pA0_0_0 p0_0_0.length pc0_0_0, .int .i64 p0_0_1, .int .i64 p0_0_2, .slice pA0_0_3 p0_0_3.length pc0_0_3, .int .u16 p0_1]] (by kernel_rfl) hS20 (fun _ => by kernel_rfl) (fun w hk => image_Show_16_ok K (fun _ => False) w pA0_0_0 pc0_0_0 pA0_0_3 pc0_0_3 p0_0_0 p0_0_1 p0_0_2 p0_0_3 p0_1 (fun _ hf => hf.elim) (Sl.mono (h19.atI [] rfl hk 0 rfl rfl) (fun _ _ hf => hf.elim)) (Sl.mono (h19.atI [] rfl hk 1 rfl rfl) (fun _ _ hf => hf.elim)) ⟨(h19.atI [] rfl hk 2 rfl rfl).1, fun hf => hf.elim, (h19.atI [] rfl hk 2 rfl rfl).2.2⟩ ⟨(h19.atI [] rfl hk 3 rfl rfl).1, fun hf => hf.elim, (h19.atI [] rfl hk 3 rfl rfl).2.2⟩ ⟨(h19.atI [] rfl hk 4 rfl rfl).1, fun hf => hf.elim, (h19.atI [] rfl hk 4 rfl rfl).2.2⟩ hg22) ?_
   refine AnyE.loadBox 2 14 5 29 b2 0 (.agg #[.slice pA0_0_0 p0_0_0.length pc0_0_0, .int .i64 p0_0_1, .int .i64 p0_0_2, .slice pA0_0_3 p0_0_3.length pc0_0_3, .int .u16 p0_1]) [] h19 rfl (by kernel_rfl) hS20 rfl rfl (by kernel_rfl) (by kernel_rfl) ?_
   refine AnyE.one 3 (by kernel_rfl) (fun w24 hu25 => ?_)
   have h26 := h19.call hu25
   have hS27 := hS20.up hu25
   obtain ⟨⟨t32, t36, t37, t38, t42⟩, hg31, h⟩ := of_bind h
   dsimp only at h
   refine OpE.call 15 (by kernel_rfl) 12 #[.agg #[.slice pA0_0_0 p0_0_0.length pc0_0_0, .int .i64 p0_0_1, .int .i64 p0_0_2, .slice pA0_0_3 p0_0_3.length pc0_0_3, .int .u16 p0_1]] (by kernel_rfl) ((charabanclaw30_plain_12_ok K _ w24  pA0_0_0 pc0_0_0 pA0_0_3 pc0_0_3 p0_0_0 p0_0_1 p0_0_2 p0_0_3 p0_1 h26.old' (h26.get 0 rfl) (h26.get 1 rfl) hg31).mono ?_)
   rintro _ w28 ⟨A33, c34, A39, c40, rfl, hr43⟩
   refine ⟨_, rfl, ?_⟩
   have hb29 := hr43.below
   have h30 := h26.join hr43
   have hS44 := hS27.up hb29
   refine ⟨hS44, ?_⟩
   refine AnyE.one 4 (by kernel_rfl) (fun w45 hu46 => ?_)
   have h47 := h30.call hu46
   have hS48 := hS44.up hu46
   obtain ⟨t53, hg52, h⟩ := of_bind h
   refine OpE.call 16 (by kernel_rfl) 17 #[.agg #[.slice A33 t32.length c34, .int .i64 t36, .int .i64 t37, .slice A39 t38.length c40, .int .u16 t42]] (by kernel_rfl) ((charabancref30_Show_17_ok K (fun _ => False) w45  A33 c34 A39 c40 t32 t36 t37 t38 t42 (fun _ hf => hf.elim) (h47.slAny 6 rfl) (h47.ownSl 7 rfl) hg52).mono ?_)
   rintro _ w49 ⟨rfl, hb50⟩
   refine ⟨_, rfl, ?_⟩
   have h51 := h47.call hb50
   have hS54 := hS48.up hb50
   refine ⟨hS54, ?_⟩
   refine AnyE.pure 5 17 (.bool ((ByteArray.toList t23) == (ByteArray.toList t53))) (by kernel_rfl) hS54 (fun _ => by kernel_rfl) ?_
   refine AnyE.pure 6 18 (.bool ((ByteArray.toList t23) == (ByteArray.toList t53))) (by kernel_rfl) hS54 (fun _ => by kernel_rfl) ?_
   rcases of_cond h with ⟨hc55, h⟩ | ⟨hc55, h⟩
   ·skip
    refine AnyE.fix 18 true hc55 (by kernel_rfl) (by kernel_rfl) ?_
    refine AnyE.loadBox 7 19 5 29 b2 0 (.agg #[.slice pA0_0_0 p0_0_0.length pc0_0_0, .int .i64 p0_0_1, .int .i64 p0_0_2, .slice pA0_0_3 p0_0_3.length pc0_0_3, .int .u16 p0_1]) [] h19 rfl (by kernel_rfl) hS54 rfl rfl (by kernel_rfl) (by kernel_rfl) ?_
    obtain ⟨t57, hg56, h⟩ := of_bind h
    refine AnyE.call 8 20 (.int .i64 t57) 18 #[.agg #[.slice pA0_0_0 p0_0_0.length pc0_0_0, .int .i64 p0_0_1, .int .i64 p0_0_2, .slice pA0_0_3 p0_0_3.length pc0_0_3, .int .u16 p0_1]] (by kernel_rfl) hS54 (fun _ => by kernel_rfl) (fun w hk => image_Check_18_ok K (fun _ => False) w pA0_0_0 pc0_0_0 pA0_0_3 pc0_0_3 p0_0_0 p0_0_1 p0_0_2 p0_0_3 p0_1 (fun _ hf => hf.elim) (Sl.mono (h19.atI [] rfl hk 0 rfl rfl) (fun _ _ hf => hf.elim)) (Sl.mono (h19.atI [] rfl hk 1 rfl rfl) (fun _ _ hf => hf.elim)) hg56) ?_
    refine AnyE.loadBox 9 21 5 29 b2 0 (.agg #[.slice pA0_0_0 p0_0_0.length pc0_0_0, .int .i64 p0_0_1, .int .i64 p0_0_2, .slice pA0_0_3 p0_0_3.length pc0_0_3, .int .u16 p0_1]) [] h19 rfl (by kernel_rfl) hS54 rfl rfl (by kernel_rfl) (by kernel_rfl) ?_
    refine AnyE.one 10 (by kernel_rfl) (fun w58 hu59 => ?_)
    have h60 := h51.call hu59
    have hS61 := hS54.up hu59
    obtain ⟨⟨t66, t70, t71, t72, t76⟩, hg65, h⟩ := of_bind h
    dsimp only at h
    refine OpE.call 22 (by kernel_rfl) 12 #[.agg #[.slice pA0_0_0 p0_0_0.length pc0_0_0, .int .i64 p0_0_1, .int .i64 p0_0_2, .slice pA0_0_3 p0_0_3.length pc0_0_3, .int .u16 p0_1]] (by kernel_rfl) ((charabanclaw30_plain_12_ok K _ w58  pA0_0_0 pc0_0_0 pA0_0_3 pc0_0_3 p0_0_0 p0_0_1 p0_0_2 p0_0_3 p0_1 h60.old' (h60.get 0 rfl) (h60.get 1 rfl) hg65).mono ?_)
    rintro _ w62 ⟨A67, c68, A73, c74, rfl, hr77⟩
    refine ⟨_, rfl, ?_⟩
    have hb63 := hr77.below
    have h64 := h60.join hr77
    have hS78 := hS61.up hb63
    refine ⟨hS78, ?_⟩
    refine AnyE.one 11 (by kernel_rfl) (fun w79 hu80 => ?_)
    have h81 := h64.call hu80
    have hS82 := hS78.up hu80
    obtain ⟨t87, hg86, h⟩ := of_bind h
    refine OpE.call 23 (by kernel_rfl) 19 #[.agg #[.slice A67 t66.length c68, .int .i64 t70, .int .i64 t71, .slice A73 t72.length c74, .int .u16 t76]] (by kernel_rfl) ((charabancref30_Check_19_ok K (fun _ => False) w79  A67 c68 A73 c74 t66 t70 t71 t72 t76 (fun _ hf => hf.elim) (h81.slAny 8 rfl) (h81.ownSl 9 rfl) hg86).mono ?_)
    rintro _ w83 ⟨rfl, hb84⟩
    refine ⟨_, rfl, ?_⟩
    have h85 := h81.call hb84
    have hS88 := hS82.up hb84
    refine ⟨hS88, ?_⟩
    refine AnyE.pure 12 24 (.bool (t57 == t87)) (by kernel_rfl) hS88 (fun _ => by kernel_rfl) ?_
    refine AnyE.pure 13 25 (.bool (t57 == t87)) (by kernel_rfl) hS88 (fun _ => by kernel_rfl) ?_
    refine AnyE.pure 14 2 (.bool (t57 == t87)) (by kernel_rfl) hS88 (fun _ => by kernel_rfl) ?_
    refine AnyE.done (by kernel_rfl) (fun w89 hu90 => ?_)
    have h91 := h85.call hu90
    refine RunsI.l [2] [(2, .bool (t57 == t87))] ?_
    refine RunsI.t (.bool (t57 == t87)) ?_
    obtain rfl := Option.some.inj h
    exact ⟨rfl, h91.below⟩
   ·skip
    refine AnyE.fix 18 false hc55 (by kernel_rfl) (by kernel_rfl) ?_
    refine AnyE.no 7 19 (by kernel_rfl) hS54 ?_
    refine AnyE.no 8 20 (by kernel_rfl) hS54 ?_
    refine AnyE.no 9 21 (by kernel_rfl) hS54 ?_
    refine AnyE.no 10 22 (by kernel_rfl) hS54 ?_
    refine AnyE.no 11 23 (by kernel_rfl) hS54 ?_
    refine AnyE.no 12 24 (by kernel_rfl) hS54 ?_
    refine AnyE.pure 13 25 (.bool false) (by kernel_rfl) hS54 (fun _ => by kernel_rfl) ?_
    refine AnyE.pure 14 2 (.bool false) (by kernel_rfl) hS54 (fun _ => by kernel_rfl) ?_
    refine AnyE.done (by kernel_rfl) (fun w92 hu93 => ?_)
    have h94 := h51.call hu93
    refine RunsI.l [2] [(2, .bool false)] ?_
    refine RunsI.t (.bool false) ?_
    obtain rfl := Option.some.inj h
    exact ⟨rfl, h94.below⟩
end
end Go.Proofs.YtbcepghanbkncaaDoor.Im
