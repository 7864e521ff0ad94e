/- The statement's function TextShows as a plain Lean function; written by wip/eng.py. -/
import Derived.Test.YtilgjfckgkkfmaaDoorTex5
set_option linter.unusedVariables false
set_option linter.unusedSimpArgs false
set_option maxHeartbeats 4000000
namespace Go.Proofs.YtilgjfckgkkfmaaDoor.Tex
open Go.RowKit Go.Eng
noncomputable def B7 : Code := (Tryd.f7.body).getD .skip
noncomputable def F7 : Fun Tryd.prog := ⟨7, Tryd.f7, B7, 12, Tryd.func7, by kernel_rfl, by kernel_rfl, [], none⟩

/-! ### charabanc/charabanclaw09.TextShows (function 7) -/
section
def charabanclaw09_TextShows_7.post (M0 : Nat → Prop) (w0 : World) (r : Bool) : Ending → World → Prop := fun e w => e = .returned (.bool r) ∧ Below w0.heap.size w0 w
def charabanclaw09_TextShows_7.f (K : Nat) (p0_0 : Int) (p0_1 : Int) (p0_2 : Int) (p0_3 : Int) (p0_4 : Int) (p0_5 : Int) : Option Bool := (charabanclaw09_awake_25.f K).bind fun t10 => cond (!t10) (some false) ((text_Show_26.f K p0_0 p0_1 p0_2 p0_3 p0_4 p0_5).bind fun t17 => (charabancref09_Show_27.f K p0_0 p0_1 p0_2 p0_3 p0_4 p0_5).bind fun t19 => some ((ByteArray.toList t17) == (ByteArray.toList t19)))
set_option maxRecDepth 100000 in
theorem charabanclaw09_TextShows_7_ok (K : Nat) (M0 : Nat → Prop) (w0 : World) (p0_0 : Int) (p0_1 : Int) (p0_2 : Int) (p0_3 : Int) (p0_4 : Int) (p0_5 : Int) (ho : ∀ b, M0 b → b < w0.heap.size) (hG0 : (gl 0 (tab_0.flatMap en_0)).ok w0 M0) (hG1 : (gl 1 (tab_1.flatMap en_1)).ok w0 M0) (hG2 : (gl 2 (tab_2.flatMap en_2)).ok w0 M0) (hG3 : (gl 3 (tab_3.flatMap en_3)).ok w0 M0) (hG4 : (gl 4 (tab_4.flatMap en_4)).ok w0 M0) (hG5 : (gl 5 (tab_5.flatMap en_5)).ok w0 M0) (hG6 : (gl 6 (tab_6.flatMap en_6)).ok w0 M0) (hG7 : (gl 7 (tab_7.flatMap en_7)).ok w0 M0) (hG8 : (gl 8 (tab_8.flatMap en_8)).ok w0 M0) (hG9 : (gl 9 (tab_9.flatMap en_9)).ok w0 M0) (hG10 : (gl 10 (tab_10.flatMap en_10)).ok w0 M0) (hG12 : (gl 12 (tab_12.flatMap en_12)).ok w0 M0) (hG15 : (gl 15 (tab_15.flatMap en_15)).ok w0 M0) (hG16 : (gl 16 (tab_16.flatMap en_16)).ok w0 M0) {r : Bool} (h : charabanclaw09_TextShows_7.f K p0_0 p0_1 p0_2 p0_3 p0_4 p0_5 = some r) :
  Calls Tryd.prog 7 #[.agg #[.int .i64 p0_0, .int .u8 p0_1, .int .u8 p0_2, .int .u16 p0_3, .int .i64 p0_4, .int .i64 p0_5]] w0 (charabanclaw09_TextShows_7.post M0 w0 r) := by
 unfold charabanclaw09_TextShows_7.f at h
 have h0 : Holds M0 w0 w0 [] := Holds.start ho
 have h0g0 := h0.add (gl 0 (tab_0.flatMap en_0)) rfl ⟨hG0.1, fun hm => hG0.2.1 (hm.elim id (fun hm => absurd hm (by simp [mines, sl, gl]))), hG0.2.2⟩
 have h0g1 := h0g0.add (gl 1 (tab_1.flatMap en_1)) rfl ⟨hG1.1, fun hm => hG1.2.1 (hm.elim id (fun hm => absurd hm (by simp [mines, sl, gl]))), hG1.2.2⟩
 have h0g2 := h0g1.add (gl 2 (tab_2.flatMap en_2)) rfl ⟨hG2.1, fun hm => hG2.2.1 (hm.elim id (fun hm => absurd hm (by simp [mines, sl, gl]))), hG2.2.2⟩
 have h0g3 := h0g2.add (gl 3 (tab_3.flatMap en_3)) rfl ⟨hG3.1, fun hm => hG3.2.1 (hm.elim id (fun hm => absurd hm (by simp [mines, sl, gl]))), hG3.2.2⟩
 have h0g4 := h0g3.add (gl 4 (tab_4.flatMap en_4)) rfl ⟨hG4.1, fun hm => hG4.2.1 (hm.elim id (fun hm => absurd hm (by simp [mines, sl, gl]))), hG4.2.2⟩
 have h0g5 := h0g4.add (gl 5 (tab_5.flatMap en_5)) rfl ⟨hG5.1, fun hm => hG5.2.1 (hm.elim id (fun hm => absurd hm (by simp [mines, sl, gl]))), hG5.2.2⟩
 have h0g6 := h0g5.add (gl 6 (tab_6.flatMap en_6)) rfl ⟨hG6.1, fun hm => hG6.2.1 (hm.elim id (fun hm => absurd hm (by simp [mines, sl, gl]))), hG6.2.2⟩
 have h0g7 := h0g6.add (gl 7 (tab_7.flatMap en_7)) rfl ⟨hG7.1, fun hm => hG7.2.1 (hm.elim id (fun hm => absurd hm (by simp [mines, sl, gl]))), hG7.2.2⟩
 have h0g8 := h0g7.add (gl 8 (tab_8.flatMap en_8)) rfl ⟨hG8.1, fun hm => hG8.2.1 (hm.elim id (fun hm => absurd hm (by simp [mines, sl, gl]))), hG8.2.2⟩
 have h0g9 := h0g8.add (gl 9 (tab_9.flatMap en_9)) rfl ⟨hG9.1, fun hm => hG9.2.1 (hm.elim id (fun hm => absurd hm (by simp [mines, sl, gl]))), hG9.2.2⟩
 have h0g10 := h0g9.add (gl 10 (tab_10.flatMap en_10)) rfl ⟨hG10.1, fun hm => hG10.2.1 (hm.elim id (fun hm => absurd hm (by simp [mines, sl, gl]))), hG10.2.2⟩
 have h0g12 := h0g10.add (gl 12 (tab_12.flatMap en_12)) rfl ⟨hG12.1, fun hm => hG12.2.1 (hm.elim id (fun hm => absurd hm (by simp [mines, sl, gl]))), hG12.2.2⟩
 have h0g15 := h0g12.add (gl 15 (tab_15.flatMap en_15)) rfl ⟨hG15.1, fun hm => hG15.2.1 (hm.elim id (fun hm => absurd hm (by simp [mines, sl, gl]))), hG15.2.2⟩
 have h0g16 := h0g15.add (gl 16 (tab_16.flatMap en_16)) rfl ⟨hG16.1, fun hm => hG16.2.1 (hm.elim id (fun hm => absurd hm (by simp [mines, sl, gl]))), hG16.2.2⟩
 have h0 : Holds M0 w0 w0 [gl 0 (tab_0.flatMap en_0), gl 1 (tab_1.flatMap en_1), gl 2 (tab_2.flatMap en_2), gl 3 (tab_3.flatMap en_3), gl 4 (tab_4.flatMap en_4), gl 5 (tab_5.flatMap en_5), gl 6 (tab_6.flatMap en_6), gl 7 (tab_7.flatMap en_7), gl 8 (tab_8.flatMap en_8), gl 9 (tab_9.flatMap en_9), gl 10 (tab_10.flatMap en_10), gl 12 (tab_12.flatMap en_12), gl 15 (tab_15.flatMap en_15), gl 16 (tab_16.flatMap en_16)] := h0g16
 refine calls_of F7 rfl [.agg #[.int .i64 p0_0, .int .u8 p0_1, .int .u8 p0_2, .int .u16 p0_3, .int .i64 p0_4, .int .i64 p0_5]] (by kernel_rfl) ?_
 refine RunsI.g 1 [.c 1, .c 2] ?_
 refine RunsI.r ?_
 refine RegI.o (OpE.box 1 51 [.int .i64 p0_0, .int .u8 p0_1, .int .u8 p0_2, .int .u16 p0_3, .int .i64 p0_4, .int .i64 p0_5] h0 (by kernel_rfl) (by kernel_rfl) ?_)
 intro w1 b2 h3 hb4 hn5
 refine RegI.p 1 [(1, .pointer (some ⟨b2, 0, none⟩))] ?_
 refine RegI.d ?_
 refine RunsI.g 1 [.c 3, .c 4] ?_
 refine RunsI.r ?_
 obtain ⟨t10, hg9, h⟩ := of_bind h
 refine RegI.o (OpE.call 4 (by kernel_rfl) 25 #[] (by kernel_rfl) ((charabanclaw09_awake_25_ok K _ w1  h3.old' (h3.get 0 rfl) (h3.get 1 rfl) (h3.get 2 rfl) (h3.get 3 rfl) (h3.get 4 rfl) (h3.get 5 rfl) (h3.get 6 rfl) (h3.get 7 rfl) (h3.get 8 rfl) (h3.get 9 rfl) (h3.get 10 rfl) (h3.get 11 rfl) (h3.get 12 rfl) (h3.get 13 rfl) hg9).mono ?_))
 rintro _ w6 ⟨rfl, hb7⟩
 refine ⟨_, rfl, ?_⟩
 have h8 := h3.call hb7
 refine RegI.p 1 [(1, .pointer (some ⟨b2, 0, none⟩)), (3, .bool t10)] ?_
 refine RegI.d ?_
 refine RunsI.g 2 [.c 6, .c 7, .c 12] ?_
 refine RunsI.r ?_
 refine RegI.p 2 [(1, .pointer (some ⟨b2, 0, none⟩)), (6, .bool (!t10))] ?_
 refine RegI.d ?_
 rcases of_cond h with ⟨hc11, h⟩ | ⟨hc11, h⟩
 ·skip
  refine RunsI.f 6 true hc11 ?_
  refine RunsI.b true 8 ?_
  refine RunsI.g 1 [.c 9, .c 10, .c 12] ?_
  refine RunsI.r ?_
  refine RegI.p 1 [(2, .bool false)] ?_
  refine RegI.d ?_
  refine RunsI.t (.bool false) ?_
  obtain rfl := Option.some.inj h
  exact ⟨rfl, h8.below⟩
 ·skip
  refine RunsI.f 6 false hc11 ?_
  refine RunsI.b false 11 ?_
  refine RunsI.g 1 [.c 12] ?_
  refine RunsI.g 1 [.c 13, .c 14] ?_
  refine RunsI.any 6 (by kernel_rfl) (by kernel_rfl) (by kernel_rfl) (Kp ([] : List Nat) (World.drew w6)) ?_
  have h13 := h8.drew
  generalize World.drew w6 = w12 at h13 ⊢
  have hS14 := Kp.refl ([] : List Nat) w12
  refine AnyE.loadBox 0 7 14 51 b2 0 (.agg #[.int .i64 p0_0, .int .u8 p0_1, .int .u8 p0_2, .int .u16 p0_3, .int .i64 p0_4, .int .i64 p0_5]) [] h13 rfl (by kernel_rfl) hS14 rfl rfl (by kernel_rfl) (by kernel_rfl) ?_
  obtain ⟨t17, hg16, h⟩ := of_bind h
  refine AnyE.call 1 8 (.string t17) 26 #[.agg #[.int .i64 p0_0, .int .u8 p0_1, .int .u8 p0_2, .int .u16 p0_3, .int .i64 p0_4, .int .i64 p0_5]] (by kernel_rfl) hS14 (fun _ => by kernel_rfl) (fun w hk => text_Show_26_ok K (fun _ => False) w p0_0 p0_1 p0_2 p0_3 p0_4 p0_5 (fun _ hf => hf.elim) ⟨(h13.atI [] rfl hk 0 rfl rfl).1, fun hf => hf.elim, (h13.atI [] rfl hk 0 rfl rfl).2.2⟩ ⟨(h13.atI [] rfl hk 1 rfl rfl).1, fun hf => hf.elim, (h13.atI [] rfl hk 1 rfl rfl).2.2⟩ ⟨(h13.atI [] rfl hk 2 rfl rfl).1, fun hf => hf.elim, (h13.atI [] rfl hk 2 rfl rfl).2.2⟩ ⟨(h13.atI [] rfl hk 3 rfl rfl).1, fun hf => hf.elim, (h13.atI [] rfl hk 3 rfl rfl).2.2⟩ ⟨(h13.atI [] rfl hk 4 rfl rfl).1, fun hf => hf.elim, (h13.atI [] rfl hk 4 rfl rfl).2.2⟩ ⟨(h13.atI [] rfl hk 5 rfl rfl).1, fun hf => hf.elim, (h13.atI [] rfl hk 5 rfl rfl).2.2⟩ ⟨(h13.atI [] rfl hk 6 rfl rfl).1, fun hf => hf.elim, (h13.atI [] rfl hk 6 rfl rfl).2.2⟩ ⟨(h13.atI [] rfl hk 7 rfl rfl).1, fun hf => hf.elim, (h13.atI [] rfl hk 7 rfl rfl).2.2⟩ ⟨(h13.atI [] rfl hk 8 rfl rfl).1, fun hf => hf.elim, (h13.atI [] rfl hk 8 rfl rfl).2.2⟩ ⟨(h13.atI [] rfl hk 9 rfl rfl).1, fun hf => hf.elim, (h13.atI [] rfl hk 9 rfl rfl).2.2⟩ ⟨(h13.atI [] rfl hk 10 rfl rfl).1, fun hf => hf.elim, (h13.atI [] rfl hk 10 rfl rfl).2.2⟩ ⟨(h13.atI [] rfl hk 11 rfl rfl).1, fun hf => hf.elim, (h13.atI [] rfl hk 11 rfl rfl).2.2⟩ ⟨(h13.atI [] rfl hk 12 rfl rfl).1, fun hf => hf.elim, (h13.atI [] rfl hk 12 rfl rfl).2.2⟩ ⟨(h13.atI [] rfl hk 13 rfl rfl).1, fun hf => hf.elim, (h13.atI [] rfl hk 13 rfl rfl).2.2⟩ hg16) ?_
  refine AnyE.loadBox 2 9 14 51 b2 0 (.agg #[.int .i64 p0_0, .int .u8 p0_1, .int .u8 p0_2, .int .u16 p0_3, .int .i64 p0_4, .int .i64 p0_5]) [] h13 rfl (by kernel_rfl) hS14 rfl rfl (by kernel_rfl) (by kernel_rfl) ?_
  obtain ⟨t19, hg18, h⟩ := of_bind h
  refine AnyE.call 3 10 (.string t19) 27 #[.agg #[.int .i64 p0_0, .int .u8 p0_1, .int .u8 p0_2, .int .u16 p0_3, .int .i64 p0_4, .int .i64 p0_5]] (by kernel_rfl) hS14 (fun _ => by kernel_rfl) (fun w hk => charabancref09_Show_27_ok K (fun _ => False) w p0_0 p0_1 p0_2 p0_3 p0_4 p0_5 (fun _ hf => hf.elim) hg18) ?_
  refine AnyE.pure 4 11 (.bool ((ByteArray.toList t17) == (ByteArray.toList t19))) (by kernel_rfl) hS14 (fun _ => by kernel_rfl) ?_
  refine AnyE.pure 5 2 (.bool ((ByteArray.toList t17) == (ByteArray.toList t19))) (by kernel_rfl) hS14 (fun _ => by kernel_rfl) ?_
  refine AnyE.done (by kernel_rfl) (fun w20 hu21 => ?_)
  have h22 := h13.call hu21
  refine RunsI.l [2] [(2, .bool ((ByteArray.toList t17) == (ByteArray.toList t19)))] ?_
  refine RunsI.t (.bool ((ByteArray.toList t17) == (ByteArray.toList t19))) ?_
  obtain rfl := Option.some.inj h
  exact ⟨rfl, h22.below⟩
end
end Go.Proofs.YtilgjfckgkkfmaaDoor.Tex
