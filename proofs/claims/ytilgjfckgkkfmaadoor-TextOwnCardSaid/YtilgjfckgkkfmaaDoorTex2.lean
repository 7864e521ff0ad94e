/- Functions of the program as plain Lean functions, each with the proof that the call comes to it; written by wip/eng.py. -/
import Derived.Test.YtilgjfckgkkfmaaDoorTex
set_option linter.unusedVariables false
set_option linter.unusedSimpArgs false
set_option maxHeartbeats 4000000
namespace Go.Proofs.YtilgjfckgkkfmaaDoor.Tex
open Go.RowKit Go.Eng
/-! ### (charabanc/text.shown).high (function 54) -/
section
def text_shown_high_54.post (M0 : Nat → Prop) (w0 : World) (r : ByteArray) : Ending → World → Prop := fun e w => e = .returned (.string r) ∧ Below w0.heap.size w0 w
def text_shown_high_54.f (K : Nat) (p0_0_0 : Int) (p0_0_1 : Int) (p0_0_2 : Int) (p0_0_3 : Int) (p0_0_4 : Int) (p0_0_5 : Int) (p0_1 : Int) (p0_2 : Int) (p0_3 : Int) (p0_4 : Int) (p0_5 : Int) : Option ByteArray := cond (p0_3 == 0) (cond (inR p0_2 8) (cond (mayCat (⟨#[114, 101, 116, 32]⟩ : ByteArray).size (rdD tab_0 p0_2).size) (some ((⟨#[114, 101, 116, 32]⟩ : ByteArray) ++ (rdD tab_0 p0_2))) none) none) (cond (p0_3 == 1) (cond (p0_5 == 0) ((text_shown_pair_88.f K p0_0_0 p0_0_1 p0_0_2 p0_0_3 p0_0_4 p0_0_5 p0_1 p0_2 p0_3 p0_4 p0_5 p0_4 true).bind fun t15 => cond (mayCat (⟨#[112, 111, 112, 32]⟩ : ByteArray).size t15.size) (some ((⟨#[112, 111, 112, 32]⟩ : ByteArray) ++ t15)) none) ((text_shown_hl_87.f K p0_0_0 p0_0_1 p0_0_2 p0_0_3 p0_0_4 p0_0_5 p0_1 p0_2 p0_3 p0_4 p0_5).bind fun t22 => cond (mayCat (⟨#[106, 112, 32, 40]⟩ : ByteArray).size t22.size) (cond (mayCat ((⟨#[106, 112, 32, 40]⟩ : ByteArray) ++ t22).size (⟨#[41]⟩ : ByteArray).size) ((text_shown_hl_87.f K p0_0_0 p0_0_1 p0_0_2 p0_0_3 p0_0_4 p0_0_5 p0_1 p0_2 p0_3 p0_4 p0_5).bind fun t26 => cond (mayCat (⟨#[108, 100, 32, 115, 112, 44]⟩ : ByteArray).size t26.size) (cond (inR p0_4 4) (some (rdD ([(⟨#[114, 101, 116]⟩ : ByteArray), (⟨#[101, 120, 120]⟩ : ByteArray), (((⟨#[106, 112, 32, 40]⟩ : ByteArray) ++ t22) ++ (⟨#[41]⟩ : ByteArray)), ((⟨#[108, 100, 32, 115, 112, 44]⟩ : ByteArray) ++ t26)] : List ByteArray) p0_4)) none) none) none) none)) (cond (p0_3 == 2) (cond (inR p0_2 8) (cond (mayCat (⟨#[106, 112, 32]⟩ : ByteArray).size (rdD tab_0 p0_2).size) (cond (mayCat ((⟨#[106, 112, 32]⟩ : ByteArray) ++ (rdD tab_0 p0_2)).size (⟨#[44]⟩ : ByteArray).size) ((text_shown_nn_89.f K p0_0_0 p0_0_1 p0_0_2 p0_0_3 p0_0_4 p0_0_5 p0_1 p0_2 p0_3 p0_4 p0_5).bind fun t41 => cond (mayCat (((⟨#[106, 112, 32]⟩ : ByteArray) ++ (rdD tab_0 p0_2)) ++ (⟨#[44]⟩ : ByteArray)).size t41.size) (some ((((⟨#[106, 112, 32]⟩ : ByteArray) ++ (rdD tab_0 p0_2)) ++ (⟨#[44]⟩ : ByteArray)) ++ t41)) none) none) none) none) (cond (p0_3 == 3) ((text_shown_nn_89.f K p0_0_0 p0_0_1 p0_0_2 p0_0_3 p0_0_4 p0_0_5 p0_1 p0_2 p0_3 p0_4 p0_5).bind fun t52 => cond (mayCat (⟨#[106, 112, 32]⟩ : ByteArray).size t52.size) ((text_shown_n_92.f K p0_0_0 p0_0_1 p0_0_2 p0_0_3 p0_0_4 p0_0_5 p0_1 p0_2 p0_3 p0_4 p0_5).bind fun t55 => cond (mayCat (⟨#[111, 117, 116, 32, 40]⟩ : ByteArray).size t55.size) (cond (mayCat ((⟨#[111, 117, 116, 32, 40]⟩ : ByteArray) ++ t55).size (⟨#[41, 44, 97]⟩ : ByteArray).size) ((text_shown_n_92.f K p0_0_0 p0_0_1 p0_0_2 p0_0_3 p0_0_4 p0_0_5 p0_1 p0_2 p0_3 p0_4 p0_5).bind fun t59 => cond (mayCat (⟨#[105, 110, 32, 97, 44, 40]⟩ : ByteArray).size t59.size) (cond (mayCat ((⟨#[105, 110, 32, 97, 44, 40]⟩ : ByteArray) ++ t59).size (⟨#[41]⟩ : ByteArray).size) ((text_shown_hl_87.f K p0_0_0 p0_0_1 p0_0_2 p0_0_3 p0_0_4 p0_0_5 p0_1 p0_2 p0_3 p0_4 p0_5).bind fun t63 => cond (mayCat (⟨#[101, 120, 32, 40, 115, 112, 41, 44]⟩ : ByteArray).size t63.size) (cond (inR p0_2 8) (some (rdD ([((⟨#[106, 112, 32]⟩ : ByteArray) ++ t52), (⟨#[112, 114, 101, 102, 105, 120]⟩ : ByteArray), (((⟨#[111, 117, 116, 32, 40]⟩ : ByteArray) ++ t55) ++ (⟨#[41, 44, 97]⟩ : ByteArray)), (((⟨#[105, 110, 32, 97, 44, 40]⟩ : ByteArray) ++ t59) ++ (⟨#[41]⟩ : ByteArray)), ((⟨#[101, 120, 32, 40, 115, 112, 41, 44]⟩ : ByteArray) ++ t63), (⟨#[101, 120, 32, 100, 101, 44, 104, 108]⟩ : ByteArray), (⟨#[100, 105]⟩ : ByteArray), (⟨#[101, 105]⟩ : ByteArray)] : List ByteArray) p0_2)) none) none) none) none) none) none) none) (cond (p0_3 == 4) (cond (inR p0_2 8) (cond (mayCat (⟨#[99, 97, 108, 108, 32]⟩ : ByteArray).size (rdD tab_0 p0_2).size) (cond (mayCat ((⟨#[99, 97, 108, 108, 32]⟩ : ByteArray) ++ (rdD tab_0 p0_2)).size (⟨#[44]⟩ : ByteArray).size) ((text_shown_nn_89.f K p0_0_0 p0_0_1 p0_0_2 p0_0_3 p0_0_4 p0_0_5 p0_1 p0_2 p0_3 p0_4 p0_5).bind fun t78 => cond (mayCat (((⟨#[99, 97, 108, 108, 32]⟩ : ByteArray) ++ (rdD tab_0 p0_2)) ++ (⟨#[44]⟩ : ByteArray)).size t78.size) (some ((((⟨#[99, 97, 108, 108, 32]⟩ : ByteArray) ++ (rdD tab_0 p0_2)) ++ (⟨#[44]⟩ : ByteArray)) ++ t78)) none) none) none) none) (cond (p0_3 == 5) (cond (p0_5 == 0) ((text_shown_pair_88.f K p0_0_0 p0_0_1 p0_0_2 p0_0_3 p0_0_4 p0_0_5 p0_1 p0_2 p0_3 p0_4 p0_5 p0_4 true).bind fun t89 => cond (mayCat (⟨#[112, 117, 115, 104, 32]⟩ : ByteArray).size t89.size) (some ((⟨#[112, 117, 115, 104, 32]⟩ : ByteArray) ++ t89)) none) (cond (p0_4 == 0) ((text_shown_nn_89.f K p0_0_0 p0_0_1 p0_0_2 p0_0_3 p0_0_4 p0_0_5 p0_1 p0_2 p0_3 p0_4 p0_5).bind fun t96 => cond (mayCat (⟨#[99, 97, 108, 108, 32]⟩ : ByteArray).size t96.size) (some ((⟨#[99, 97, 108, 108, 32]⟩ : ByteArray) ++ t96)) none) (some (⟨#[112, 114, 101, 102, 105, 120]⟩ : ByteArray)))) (cond (p0_3 == 6) (cond (inR p0_2 8) ((text_shown_n_92.f K p0_0_0 p0_0_1 p0_0_2 p0_0_3 p0_0_4 p0_0_5 p0_1 p0_2 p0_3 p0_4 p0_5).bind fun t105 => cond (mayCat (rdD tab_2 p0_2).size t105.size) (some ((rdD tab_2 p0_2) ++ t105)) none) none) ((text_Hex_48.f K (IntKind.wrap .i64 (8 * p0_2)) 2).bind fun t114 => cond (mayCat (⟨#[114, 115, 116, 32]⟩ : ByteArray).size t114.size) (some ((⟨#[114, 115, 116, 32]⟩ : ByteArray) ++ t114)) none)))))))
set_option maxRecDepth 100000 in
theorem text_shown_high_54_ok (K : Nat) (M0 : Nat → Prop) (w0 : World) (p0_0_0 : Int) (p0_0_1 : Int) (p0_0_2 : Int) (p0_0_3 : Int) (p0_0_4 : Int) (p0_0_5 : Int) (p0_1 : Int) (p0_2 : Int) (p0_3 : Int) (p0_4 : Int) (p0_5 : Int) (ho : ∀ b, M0 b → b < w0.heap.size) (hG0 : (gl 0 (tab_0.flatMap en_0)).ok w0 M0) (hG2 : (gl 2 (tab_2.flatMap en_2)).ok w0 M0) (hG6 : (gl 6 (tab_6.flatMap en_6)).ok w0 M0) (hG12 : (gl 12 (tab_12.flatMap en_12)).ok w0 M0) (hG15 : (gl 15 (tab_15.flatMap en_15)).ok w0 M0) (hG16 : (gl 16 (tab_16.flatMap en_16)).ok w0 M0) {r : ByteArray} (h : text_shown_high_54.f K p0_0_0 p0_0_1 p0_0_2 p0_0_3 p0_0_4 p0_0_5 p0_1 p0_2 p0_3 p0_4 p0_5 = some r) :
  Calls Tryd.prog 54 #[.agg #[.int .i64 p0_0_0, .int .u8 p0_0_1, .int .u8 p0_0_2, .int .u16 p0_0_3, .int .i64 p0_0_4, .int .i64 p0_0_5, .int .i64 p0_1, .int .i64 p0_2, .int .i64 p0_3, .int .i64 p0_4, .int .i64 p0_5]] w0 (text_shown_high_54.post M0 w0 r) := by
 unfold text_shown_high_54.f at h
 have h0 : Holds M0 w0 w0 [] := Holds.start ho
 have h0g0 := h0.add (gl 0 (tab_0.flatMap en_0)) rfl ⟨hG0.1, fun hm => hG0.2.1 (hm.elim id (fun hm => absurd hm (by simp [mines, sl, gl]))), hG0.2.2⟩
 have h0g2 := h0g0.add (gl 2 (tab_2.flatMap en_2)) rfl ⟨hG2.1, fun hm => hG2.2.1 (hm.elim id (fun hm => absurd hm (by simp [mines, sl, gl]))), hG2.2.2⟩
 have h0g6 := h0g2.add (gl 6 (tab_6.flatMap en_6)) rfl ⟨hG6.1, fun hm => hG6.2.1 (hm.elim id (fun hm => absurd hm (by simp [mines, sl, gl]))), hG6.2.2⟩
 have h0g12 := h0g6.add (gl 12 (tab_12.flatMap en_12)) rfl ⟨hG12.1, fun hm => hG12.2.1 (hm.elim id (fun hm => absurd hm (by simp [mines, sl, gl]))), hG12.2.2⟩
 have h0g15 := h0g12.add (gl 15 (tab_15.flatMap en_15)) rfl ⟨hG15.1, fun hm => hG15.2.1 (hm.elim id (fun hm => absurd hm (by simp [mines, sl, gl]))), hG15.2.2⟩
 have h0g16 := h0g15.add (gl 16 (tab_16.flatMap en_16)) rfl ⟨hG16.1, fun hm => hG16.2.1 (hm.elim id (fun hm => absurd hm (by simp [mines, sl, gl]))), hG16.2.2⟩
 have h0 : Holds M0 w0 w0 [gl 0 (tab_0.flatMap en_0), gl 2 (tab_2.flatMap en_2), gl 6 (tab_6.flatMap en_6), gl 12 (tab_12.flatMap en_12), gl 15 (tab_15.flatMap en_15), gl 16 (tab_16.flatMap en_16)] := h0g16
 refine calls_of F54 rfl [.agg #[.int .i64 p0_0_0, .int .u8 p0_0_1, .int .u8 p0_0_2, .int .u16 p0_0_3, .int .i64 p0_0_4, .int .i64 p0_0_5, .int .i64 p0_1, .int .i64 p0_2, .int .i64 p0_3, .int .i64 p0_4, .int .i64 p0_5]] (by kernel_rfl) ?_
 refine RunsI.g 1 [.c 1, .c 2] ?_
 refine RunsI.r ?_
 refine RegI.o (OpE.box 1 92 [.int .i64 p0_0_0, .int .u8 p0_0_1, .int .u8 p0_0_2, .int .u16 p0_0_3, .int .i64 p0_0_4, .int .i64 p0_0_5, .int .i64 p0_1, .int .i64 p0_2, .int .i64 p0_3, .int .i64 p0_4, .int .i64 p0_5] h0 (by kernel_rfl) (by kernel_rfl) ?_)
 intro w1 b2 h3 hb4 hn5
 refine RegI.p 1 [(1, .pointer (some ⟨b2, 0, none⟩))] ?_
 refine RegI.d ?_
 refine RunsI.g 2 [.c 4, .c 5, .c 72] ?_
 refine RunsI.r ?_
 refine RegI.p 1 [(1, .pointer (some ⟨b2, 0, none⟩)), (3, .pointer (some ⟨b2, 8, none⟩))] ?_
 refine RegI.o (OpE.loadBox 4 6 3 b2 8 (.int .i64 p0_3) h3 (by kernel_rfl) (by kernel_rfl) rfl (by kernel_rfl) ?_)
 refine RegI.d ?_
 refine RunsI.g 2 [.c 7, .c 8, .blk 0, .c 72] ?_
 refine RunsI.r ?_
 refine RegI.p 2 [(1, .pointer (some ⟨b2, 0, none⟩)), (4, .int .i64 p0_3), (5, .bool (p0_3 == 0))] ?_
 refine RegI.d ?_
 rcases of_cond h with ⟨hc6, h⟩ | ⟨hc6, h⟩
 ·skip
  refine RunsI.f 5 true hc6 ?_
  refine RunsI.b true 9 ?_
  refine RunsI.g 1 [.c 10, .c 11, .blk 0, .c 72] ?_
  refine RunsI.r ?_
  refine RegI.p 1 [(7, .pointer (some ⟨b2, 7, none⟩))] ?_
  refine RegI.o (OpE.loadBox 8 6 3 b2 7 (.int .i64 p0_2) h3 (by kernel_rfl) (by kernel_rfl) rfl (by kernel_rfl) ?_)
  obtain ⟨hc7, h⟩ := of_cond0 h
  refine RegI.o (OpE.run 9 (by kernel_rfl) (run_idxArr (T := 122) (b := 0) (o := 0) (ix := p0_2) (len := 8) (s := 1) (by kernel_rfl) (by kernel_rfl) hc7) ?_)
  refine RegI.o (OpE.loadTab 10 0 9 en_0 tab_0 0 1 p0_2 (.string (rdD tab_0 p0_2)) (o := 0 + (Int.toNat p0_2) * 1 + 0) h3 (by kernel_rfl) rfl (fun _ => rfl) (by kernel_rfl) (by omega) hc7 (fun _ => by kernel_rfl) ?_)
  obtain ⟨hc8, h⟩ := of_cond0 h
  refine RegI.o (OpE.run 11 (by kernel_rfl) (run_cat (a := (⟨#[114, 101, 116, 32]⟩ : ByteArray)) (b := (rdD tab_0 p0_2)) (by kernel_rfl) hc8) ?_)
  refine RegI.p 1 [(2, .string ((⟨#[114, 101, 116, 32]⟩ : ByteArray) ++ (rdD tab_0 p0_2)))] ?_
  refine RegI.d ?_
  refine RunsI.t (.string ((⟨#[114, 101, 116, 32]⟩ : ByteArray) ++ (rdD tab_0 p0_2))) ?_
  obtain rfl := Option.some.inj h
  exact ⟨rfl, h3.below⟩
 ·skip
  refine RunsI.f 5 false hc6 ?_
  refine RunsI.b false 12 ?_
  refine RunsI.g 1 [.c 13, .c 14, .blk 0, .c 72] ?_
  refine RunsI.r ?_
  refine RegI.p 2 [(1, .pointer (some ⟨b2, 0, none⟩)), (4, .int .i64 p0_3), (12, .bool (p0_3 == 1))] ?_
  refine RegI.d ?_
  rcases of_cond h with ⟨hc9, h⟩ | ⟨hc9, h⟩
  ·skip
   refine RunsI.f 12 true hc9 ?_
   refine RunsI.b true 15 ?_
   refine RunsI.g 2 [.c 17, .c 18, .c 23, .blk 0, .c 72] ?_
   refine RunsI.r ?_
   refine RegI.p 1 [(1, .pointer (some ⟨b2, 0, none⟩)), (14, .pointer (some ⟨b2, 10, none⟩))] ?_
   refine RegI.o (OpE.loadBox 15 6 3 b2 10 (.int .i64 p0_5) h3 (by kernel_rfl) (by kernel_rfl) rfl (by kernel_rfl) ?_)
   refine RegI.p 1 [(1, .pointer (some ⟨b2, 0, none⟩)), (16, .bool (p0_5 == 0))] ?_
   refine RegI.d ?_
   rcases of_cond h with ⟨hc10, h⟩ | ⟨hc10, h⟩
   ·skip
    refine RunsI.f 16 true hc10 ?_
    refine RunsI.b true 19 ?_
    refine RunsI.g 1 [.c 20, .c 21, .c 23, .blk 0, .c 72] ?_
    refine RunsI.r ?_
    refine RegI.o (OpE.loadBox 17 6 92 b2 0 (.agg #[.int .i64 p0_0_0, .int .u8 p0_0_1, .int .u8 p0_0_2, .int .u16 p0_0_3, .int .i64 p0_0_4, .int .i64 p0_0_5, .int .i64 p0_1, .int .i64 p0_2, .int .i64 p0_3, .int .i64 p0_4, .int .i64 p0_5]) h3 (by kernel_rfl) (by kernel_rfl) rfl (by kernel_rfl) ?_)
    refine RegI.p 1 [(17, .agg #[.int .i64 p0_0_0, .int .u8 p0_0_1, .int .u8 p0_0_2, .int .u16 p0_0_3, .int .i64 p0_0_4, .int .i64 p0_0_5, .int .i64 p0_1, .int .i64 p0_2, .int .i64 p0_3, .int .i64 p0_4, .int .i64 p0_5]), (18, .pointer (some ⟨b2, 9, none⟩))] ?_
    refine RegI.o (OpE.loadBox 19 6 3 b2 9 (.int .i64 p0_4) h3 (by kernel_rfl) (by kernel_rfl) rfl (by kernel_rfl) ?_)
    obtain ⟨t15, hg14, h⟩ := of_bind h
    refine RegI.o (OpE.call 20 (by kernel_rfl) 88 #[.agg #[.int .i64 p0_0_0, .int .u8 p0_0_1, .int .u8 p0_0_2, .int .u16 p0_0_3, .int .i64 p0_0_4, .int .i64 p0_0_5, .int .i64 p0_1, .int .i64 p0_2, .int .i64 p0_3, .int .i64 p0_4, .int .i64 p0_5], .int .i64 p0_4, .bool true] (by kernel_rfl) ((text_shown_pair_88_ok K _ w1  p0_0_0 p0_0_1 p0_0_2 p0_0_3 p0_0_4 p0_0_5 p0_1 p0_2 p0_3 p0_4 p0_5 p0_4 true h3.old' (h3.get 2 rfl) hg14).mono ?_))
    rintro _ w11 ⟨rfl, hb12⟩
    refine ⟨_, rfl, ?_⟩
    have h13 := h3.call hb12
    obtain ⟨hc16, h⟩ := of_cond0 h
    refine RegI.o (OpE.run 21 (by kernel_rfl) (run_cat (a := (⟨#[112, 111, 112, 32]⟩ : ByteArray)) (b := t15) (by kernel_rfl) hc16) ?_)
    refine RegI.p 1 [(2, .string ((⟨#[112, 111, 112, 32]⟩ : ByteArray) ++ t15))] ?_
    refine RegI.d ?_
    refine RunsI.t (.string ((⟨#[112, 111, 112, 32]⟩ : ByteArray) ++ t15)) ?_
    obtain rfl := Option.some.inj h
    exact ⟨rfl, h13.below⟩
   ·skip
    refine RunsI.f 16 false hc10 ?_
    refine RunsI.b false 22 ?_
    refine RunsI.g 1 [.c 23, .blk 0, .c 72] ?_
    refine RunsI.g 1 [.c 24, .c 25, .blk 0, .c 72] ?_
    refine RunsI.any 12 (by kernel_rfl) (by kernel_rfl) (by kernel_rfl) (Kp ([] : List Nat) (World.drew w1)) ?_
    have h18 := h3.drew
    generalize World.drew w1 = w17 at h18 ⊢
    have hS19 := Kp.refl ([] : List Nat) w17
    refine AnyE.loadBox 0 22 6 92 b2 0 (.agg #[.int .i64 p0_0_0, .int .u8 p0_0_1, .int .u8 p0_0_2, .int .u16 p0_0_3, .int .i64 p0_0_4, .int .i64 p0_0_5, .int .i64 p0_1, .int .i64 p0_2, .int .i64 p0_3, .int .i64 p0_4, .int .i64 p0_5]) [] h18 rfl (by kernel_rfl) hS19 rfl rfl (by kernel_rfl) (by kernel_rfl) ?_
    obtain ⟨t22, hg21, h⟩ := of_bind h
    refine AnyE.call 1 23 (.string t22) 87 #[.agg #[.int .i64 p0_0_0, .int .u8 p0_0_1, .int .u8 p0_0_2, .int .u16 p0_0_3, .int .i64 p0_0_4, .int .i64 p0_0_5, .int .i64 p0_1, .int .i64 p0_2, .int .i64 p0_3, .int .i64 p0_4, .int .i64 p0_5]] (by kernel_rfl) hS19 (fun _ => by kernel_rfl) (fun w hk => text_shown_hl_87_ok K (fun _ => False) w p0_0_0 p0_0_1 p0_0_2 p0_0_3 p0_0_4 p0_0_5 p0_1 p0_2 p0_3 p0_4 p0_5 (fun _ hf => hf.elim) ⟨(h18.atI [] rfl hk 2 rfl rfl).1, fun hf => hf.elim, (h18.atI [] rfl hk 2 rfl rfl).2.2⟩ hg21) ?_
    obtain ⟨hc23, h⟩ := of_cond0 h
    refine AnyE.run 2 24 (.string ((⟨#[106, 112, 32, 40]⟩ : ByteArray) ++ t22)) (by kernel_rfl) hS19 (fun _ hk => run_cat (a := (⟨#[106, 112, 32, 40]⟩ : ByteArray)) (b := t22) (by kernel_rfl) hc23) ?_
    obtain ⟨hc24, h⟩ := of_cond0 h
    refine AnyE.run 3 25 (.string (((⟨#[106, 112, 32, 40]⟩ : ByteArray) ++ t22) ++ (⟨#[41]⟩ : ByteArray))) (by kernel_rfl) hS19 (fun _ hk => run_cat (a := ((⟨#[106, 112, 32, 40]⟩ : ByteArray) ++ t22)) (b := (⟨#[41]⟩ : ByteArray)) (by kernel_rfl) hc24) ?_
    refine AnyE.loadBox 4 26 6 92 b2 0 (.agg #[.int .i64 p0_0_0, .int .u8 p0_0_1, .int .u8 p0_0_2, .int .u16 p0_0_3, .int .i64 p0_0_4, .int .i64 p0_0_5, .int .i64 p0_1, .int .i64 p0_2, .int .i64 p0_3, .int .i64 p0_4, .int .i64 p0_5]) [] h18 rfl (by kernel_rfl) hS19 rfl rfl (by kernel_rfl) (by kernel_rfl) ?_
    obtain ⟨t26, hg25, h⟩ := of_bind h
    refine AnyE.call 5 27 (.string t26) 87 #[.agg #[.int .i64 p0_0_0, .int .u8 p0_0_1, .int .u8 p0_0_2, .int .u16 p0_0_3, .int .i64 p0_0_4, .int .i64 p0_0_5, .int .i64 p0_1, .int .i64 p0_2, .int .i64 p0_3, .int .i64 p0_4, .int .i64 p0_5]] (by kernel_rfl) hS19 (fun _ => by kernel_rfl) (fun w hk => text_shown_hl_87_ok K (fun _ => False) w p0_0_0 p0_0_1 p0_0_2 p0_0_3 p0_0_4 p0_0_5 p0_1 p0_2 p0_3 p0_4 p0_5 (fun _ hf => hf.elim) ⟨(h18.atI [] rfl hk 2 rfl rfl).1, fun hf => hf.elim, (h18.atI [] rfl hk 2 rfl rfl).2.2⟩ hg25) ?_
    obtain ⟨hc27, h⟩ := of_cond0 h
    refine AnyE.run 6 28 (.string ((⟨#[108, 100, 32, 115, 112, 44]⟩ : ByteArray) ++ t26)) (by kernel_rfl) hS19 (fun _ hk => run_cat (a := (⟨#[108, 100, 32, 115, 112, 44]⟩ : ByteArray)) (b := t26) (by kernel_rfl) hc27) ?_
    refine AnyE.pure 7 29 (.agg (List.flatMap (fun (x : ByteArray) => ([.string x] : List Value)) ([(⟨#[114, 101, 116]⟩ : ByteArray), (⟨#[101, 120, 120]⟩ : ByteArray), (((⟨#[106, 112, 32, 40]⟩ : ByteArray) ++ t22) ++ (⟨#[41]⟩ : ByteArray)), ((⟨#[108, 100, 32, 115, 112, 44]⟩ : ByteArray) ++ t26)] : List ByteArray)).toArray) (by kernel_rfl) hS19 (fun _ => by kernel_rfl) ?_
    refine AnyE.pure 8 30 (.pointer (some ⟨b2, 9, none⟩)) (by kernel_rfl) hS19 (fun _ => by kernel_rfl) ?_
    refine AnyE.loadBox 9 31 6 3 b2 9 (.int .i64 p0_4) [] h18 rfl (by kernel_rfl) hS19 rfl rfl (by kernel_rfl) (by kernel_rfl) ?_
    obtain ⟨hc28, h⟩ := of_cond0 h
    refine AnyE.run 10 32 (.string (rdD ([(⟨#[114, 101, 116]⟩ : ByteArray), (⟨#[101, 120, 120]⟩ : ByteArray), (((⟨#[106, 112, 32, 40]⟩ : ByteArray) ++ t22) ++ (⟨#[41]⟩ : ByteArray)), ((⟨#[108, 100, 32, 115, 112, 44]⟩ : ByteArray) ++ t26)] : List ByteArray) p0_4)) (by kernel_rfl) hS19 (fun _ hk => run_indexTab (T0 := 123) (en := (fun (x : ByteArray) => ([.string x] : List Value))) (tab := ([(⟨#[114, 101, 116]⟩ : ByteArray), (⟨#[101, 120, 120]⟩ : ByteArray), (((⟨#[106, 112, 32, 40]⟩ : ByteArray) ++ t22) ++ (⟨#[41]⟩ : ByteArray)), ((⟨#[108, 100, 32, 115, 112, 44]⟩ : ByteArray) ++ t26)] : List ByteArray)) (len := 4) (sz := 1) (j := p0_4) (v := .string (rdD ([(⟨#[114, 101, 116]⟩ : ByteArray), (⟨#[101, 120, 120]⟩ : ByteArray), (((⟨#[106, 112, 32, 40]⟩ : ByteArray) ++ t22) ++ (⟨#[41]⟩ : ByteArray)), ((⟨#[108, 100, 32, 115, 112, 44]⟩ : ByteArray) ++ t26)] : List ByteArray) p0_4)) (fun _ => rfl) (by kernel_rfl) (by kernel_rfl) rfl hc28 (fun _ => by kernel_rfl)) ?_
    refine AnyE.pure 11 2 (.string (rdD ([(⟨#[114, 101, 116]⟩ : ByteArray), (⟨#[101, 120, 120]⟩ : ByteArray), (((⟨#[106, 112, 32, 40]⟩ : ByteArray) ++ t22) ++ (⟨#[41]⟩ : ByteArray)), ((⟨#[108, 100, 32, 115, 112, 44]⟩ : ByteArray) ++ t26)] : List ByteArray) p0_4)) (by kernel_rfl) hS19 (fun _ => by kernel_rfl) ?_
    refine AnyE.done (by kernel_rfl) (fun w29 hu30 => ?_)
    have h31 := h18.call hu30
    refine RunsI.l [2] [(2, .string (rdD ([(⟨#[114, 101, 116]⟩ : ByteArray), (⟨#[101, 120, 120]⟩ : ByteArray), (((⟨#[106, 112, 32, 40]⟩ : ByteArray) ++ t22) ++ (⟨#[41]⟩ : ByteArray)), ((⟨#[108, 100, 32, 115, 112, 44]⟩ : ByteArray) ++ t26)] : List ByteArray) p0_4))] ?_
    refine RunsI.t (.string (rdD ([(⟨#[114, 101, 116]⟩ : ByteArray), (⟨#[101, 120, 120]⟩ : ByteArray), (((⟨#[106, 112, 32, 40]⟩ : ByteArray) ++ t22) ++ (⟨#[41]⟩ : ByteArray)), ((⟨#[108, 100, 32, 115, 112, 44]⟩ : ByteArray) ++ t26)] : List ByteArray) p0_4)) ?_
    obtain rfl := Option.some.inj h
    exact ⟨rfl, h31.below⟩
  ·skip
   refine RunsI.f 12 false hc9 ?_
   refine RunsI.b false 26 ?_
   refine RunsI.g 1 [.c 27, .c 28, .blk 0, .c 72] ?_
   refine RunsI.r ?_
   refine RegI.p 2 [(1, .pointer (some ⟨b2, 0, none⟩)), (4, .int .i64 p0_3), (33, .bool (p0_3 == 2))] ?_
   refine RegI.d ?_
   rcases of_cond h with ⟨hc32, h⟩ | ⟨hc32, h⟩
   ·skip
    refine RunsI.f 33 true hc32 ?_
    refine RunsI.b true 29 ?_
    refine RunsI.g 1 [.c 30, .c 31, .blk 0, .c 72] ?_
    refine RunsI.any 10 (by kernel_rfl) (by kernel_rfl) (by kernel_rfl) (Kp ([] : List Nat) (World.drew w1)) ?_
    have h34 := h3.drew
    generalize World.drew w1 = w33 at h34 ⊢
    have hS35 := Kp.refl ([] : List Nat) w33
    refine AnyE.pure 0 35 (.pointer (some ⟨b2, 7, none⟩)) (by kernel_rfl) hS35 (fun _ => by kernel_rfl) ?_
    refine AnyE.loadBox 1 36 6 3 b2 7 (.int .i64 p0_2) [] h34 rfl (by kernel_rfl) hS35 rfl rfl (by kernel_rfl) (by kernel_rfl) ?_
    obtain ⟨hc37, h⟩ := of_cond0 h
    refine AnyE.run 2 37 (.pointer (some ⟨0, 0 + (Int.toNat p0_2) * 1, none⟩)) (by kernel_rfl) hS35 (fun _ hk => run_idxArr (T := 122) (b := 0) (o := 0) (ix := p0_2) (len := 8) (s := 1) (by kernel_rfl) (by kernel_rfl) hc37) ?_
    refine AnyE.loadTab 3 38 0 9 en_0 tab_0 0 1 p0_2 (.string (rdD tab_0 p0_2)) [] (o := 0 + (Int.toNat p0_2) * 1 + 0) h34 rfl (by kernel_rfl) hS35 rfl rfl (fun _ => rfl) (by kernel_rfl) (by omega) hc37 (fun _ => by kernel_rfl) ?_
    obtain ⟨hc38, h⟩ := of_cond0 h
    refine AnyE.run 4 39 (.string ((⟨#[106, 112, 32]⟩ : ByteArray) ++ (rdD tab_0 p0_2))) (by kernel_rfl) hS35 (fun _ hk => run_cat (a := (⟨#[106, 112, 32]⟩ : ByteArray)) (b := (rdD tab_0 p0_2)) (by kernel_rfl) hc38) ?_
    obtain ⟨hc39, h⟩ := of_cond0 h
    refine AnyE.run 5 40 (.string (((⟨#[106, 112, 32]⟩ : ByteArray) ++ (rdD tab_0 p0_2)) ++ (⟨#[44]⟩ : ByteArray))) (by kernel_rfl) hS35 (fun _ hk => run_cat (a := ((⟨#[106, 112, 32]⟩ : ByteArray) ++ (rdD tab_0 p0_2))) (b := (⟨#[44]⟩ : ByteArray)) (by kernel_rfl) hc39) ?_
    refine AnyE.loadBox 6 41 6 92 b2 0 (.agg #[.int .i64 p0_0_0, .int .u8 p0_0_1, .int .u8 p0_0_2, .int .u16 p0_0_3, .int .i64 p0_0_4, .int .i64 p0_0_5, .int .i64 p0_1, .int .i64 p0_2, .int .i64 p0_3, .int .i64 p0_4, .int .i64 p0_5]) [] h34 rfl (by kernel_rfl) hS35 rfl rfl (by kernel_rfl) (by kernel_rfl) ?_
    obtain ⟨t41, hg40, h⟩ := of_bind h
    refine AnyE.call 7 42 (.string t41) 89 #[.agg #[.int .i64 p0_0_0, .int .u8 p0_0_1, .int .u8 p0_0_2, .int .u16 p0_0_3, .int .i64 p0_0_4, .int .i64 p0_0_5, .int .i64 p0_1, .int .i64 p0_2, .int .i64 p0_3, .int .i64 p0_4, .int .i64 p0_5]] (by kernel_rfl) hS35 (fun _ => by kernel_rfl) (fun w hk => text_shown_nn_89_ok K (fun _ => False) w p0_0_0 p0_0_1 p0_0_2 p0_0_3 p0_0_4 p0_0_5 p0_1 p0_2 p0_3 p0_4 p0_5 (fun _ hf => hf.elim) ⟨(h34.atI [] rfl hk 3 rfl rfl).1, fun hf => hf.elim, (h34.atI [] rfl hk 3 rfl rfl).2.2⟩ ⟨(h34.atI [] rfl hk 4 rfl rfl).1, fun hf => hf.elim, (h34.atI [] rfl hk 4 rfl rfl).2.2⟩ ⟨(h34.atI [] rfl hk 5 rfl rfl).1, fun hf => hf.elim, (h34.atI [] rfl hk 5 rfl rfl).2.2⟩ hg40) ?_
    obtain ⟨hc42, h⟩ := of_cond0 h
    refine AnyE.run 8 43 (.string ((((⟨#[106, 112, 32]⟩ : ByteArray) ++ (rdD tab_0 p0_2)) ++ (⟨#[44]⟩ : ByteArray)) ++ t41)) (by kernel_rfl) hS35 (fun _ hk => run_cat (a := (((⟨#[106, 112, 32]⟩ : ByteArray) ++ (rdD tab_0 p0_2)) ++ (⟨#[44]⟩ : ByteArray))) (b := t41) (by kernel_rfl) hc42) ?_
    refine AnyE.pure 9 2 (.string ((((⟨#[106, 112, 32]⟩ : ByteArray) ++ (rdD tab_0 p0_2)) ++ (⟨#[44]⟩ : ByteArray)) ++ t41)) (by kernel_rfl) hS35 (fun _ => by kernel_rfl) ?_
    refine AnyE.done (by kernel_rfl) (fun w43 hu44 => ?_)
    have h45 := h34.call hu44
    refine RunsI.l [2] [(2, .string ((((⟨#[106, 112, 32]⟩ : ByteArray) ++ (rdD tab_0 p0_2)) ++ (⟨#[44]⟩ : ByteArray)) ++ t41))] ?_
    refine RunsI.t (.string ((((⟨#[106, 112, 32]⟩ : ByteArray) ++ (rdD tab_0 p0_2)) ++ (⟨#[44]⟩ : ByteArray)) ++ t41)) ?_
    obtain rfl := Option.some.inj h
    exact ⟨rfl, h45.below⟩
   ·skip
    refine RunsI.f 33 false hc32 ?_
    refine RunsI.b false 32 ?_
    refine RunsI.g 1 [.c 33, .c 34, .blk 0, .c 72] ?_
    refine RunsI.r ?_
    refine RegI.p 2 [(1, .pointer (some ⟨b2, 0, none⟩)), (4, .int .i64 p0_3), (44, .bool (p0_3 == 3))] ?_
    refine RegI.d ?_
    rcases of_cond h with ⟨hc46, h⟩ | ⟨hc46, h⟩
    ·skip
     refine RunsI.f 44 true hc46 ?_
     refine RunsI.b true 35 ?_
     refine RunsI.g 1 [.c 36, .c 37, .blk 0, .c 72] ?_
     refine RunsI.any 19 (by kernel_rfl) (by kernel_rfl) (by kernel_rfl) (Kp ([] : List Nat) (World.drew w1)) ?_
     have h48 := h3.drew
     generalize World.drew w1 = w47 at h48 ⊢
     have hS49 := Kp.refl ([] : List Nat) w47
     refine AnyE.loadBox 0 46 6 92 b2 0 (.agg #[.int .i64 p0_0_0, .int .u8 p0_0_1, .int .u8 p0_0_2, .int .u16 p0_0_3, .int .i64 p0_0_4, .int .i64 p0_0_5, .int .i64 p0_1, .int .i64 p0_2, .int .i64 p0_3, .int .i64 p0_4, .int .i64 p0_5]) [] h48 rfl (by kernel_rfl) hS49 rfl rfl (by kernel_rfl) (by kernel_rfl) ?_
     obtain ⟨t52, hg51, h⟩ := of_bind h
     refine AnyE.call 1 47 (.string t52) 89 #[.agg #[.int .i64 p0_0_0, .int .u8 p0_0_1, .int .u8 p0_0_2, .int .u16 p0_0_3, .int .i64 p0_0_4, .int .i64 p0_0_5, .int .i64 p0_1, .int .i64 p0_2, .int .i64 p0_3, .int .i64 p0_4, .int .i64 p0_5]] (by kernel_rfl) hS49 (fun _ => by kernel_rfl) (fun w hk => text_shown_nn_89_ok K (fun _ => False) w p0_0_0 p0_0_1 p0_0_2 p0_0_3 p0_0_4 p0_0_5 p0_1 p0_2 p0_3 p0_4 p0_5 (fun _ hf => hf.elim) ⟨(h48.atI [] rfl hk 3 rfl rfl).1, fun hf => hf.elim, (h48.atI [] rfl hk 3 rfl rfl).2.2⟩ ⟨(h48.atI [] rfl hk 4 rfl rfl).1, fun hf => hf.elim, (h48.atI [] rfl hk 4 rfl rfl).2.2⟩ ⟨(h48.atI [] rfl hk 5 rfl rfl).1, fun hf => hf.elim, (h48.atI [] rfl hk 5 rfl rfl).2.2⟩ hg51) ?_
     obtain ⟨hc53, h⟩ := of_cond0 h
     refine AnyE.run 2 48 (.string ((⟨#[106, 112, 32]⟩ : ByteArray) ++ t52)) (by kernel_rfl) hS49 (fun _ hk => run_cat (a := (⟨#[106, 112, 32]⟩ : ByteArray)) (b := t52) (by kernel_rfl) hc53) ?_
     refine AnyE.loadBox 3 49 6 92 b2 0 (.agg #[.int .i64 p0_0_0, .int .u8 p0_0_1, .int .u8 p0_0_2, .int .u16 p0_0_3, .int .i64 p0_0_4, .int .i64 p0_0_5, .int .i64 p0_1, .int .i64 p0_2, .int .i64 p0_3, .int .i64 p0_4, .int .i64 p0_5]) [] h48 rfl (by kernel_rfl) hS49 rfl rfl (by kernel_rfl) (by kernel_rfl) ?_
     obtain ⟨t55, hg54, h⟩ := of_bind h
     refine AnyE.call 4 50 (.string t55) 92 #[.agg #[.int .i64 p0_0_0, .int .u8 p0_0_1, .int .u8 p0_0_2, .int .u16 p0_0_3, .int .i64 p0_0_4, .int .i64 p0_0_5, .int .i64 p0_1, .int .i64 p0_2, .int .i64 p0_3, .int .i64 p0_4, .int .i64 p0_5]] (by kernel_rfl) hS49 (fun _ => by kernel_rfl) (fun w hk => text_shown_n_92_ok K (fun _ => False) w p0_0_0 p0_0_1 p0_0_2 p0_0_3 p0_0_4 p0_0_5 p0_1 p0_2 p0_3 p0_4 p0_5 (fun _ hf => hf.elim) ⟨(h48.atI [] rfl hk 3 rfl rfl).1, fun hf => hf.elim, (h48.atI [] rfl hk 3 rfl rfl).2.2⟩ ⟨(h48.atI [] rfl hk 4 rfl rfl).1, fun hf => hf.elim, (h48.atI [] rfl hk 4 rfl rfl).2.2⟩ ⟨(h48.atI [] rfl hk 5 rfl rfl).1, fun hf => hf.elim, (h48.atI [] rfl hk 5 rfl rfl).2.2⟩ hg54) ?_
     obtain ⟨hc56, h⟩ := of_cond0 h
     refine AnyE.run 5 51 (.string ((⟨#[111, 117, 116, 32, 40]⟩ : ByteArray) ++ t55)) (by kernel_rfl) hS49 (fun _ hk => run_cat (a := (⟨#[111, 117, 116, 32, 40]⟩ : ByteArray)) (b := t55) (by kernel_rfl) hc56) ?_
     obtain ⟨hc57, h⟩ := of_cond0 h
     refine AnyE.run 6 52 (.string (((⟨#[111, 117, 116, 32, 40]⟩ : ByteArray) ++ t55) ++ (⟨#[41, 44, 97]⟩ : ByteArray))) (by kernel_rfl) hS49 (fun _ hk => run_cat (a := ((⟨#[111, 117, 116, 32, 40]⟩ : ByteArray) ++ t55)) (b := (⟨#[41, 44, 97]⟩ : ByteArray)) (by kernel_rfl) hc57) ?_
     refine AnyE.loadBox 7 53 6 92 b2 0 (.agg #[.int .i64 p0_0_0, .int .u8 p0_0_1, .int .u8 p0_0_2, .int .u16 p0_0_3, .int .i64 p0_0_4, .int .i64 p0_0_5, .int .i64 p0_1, .int .i64 p0_2, .int .i64 p0_3, .int .i64 p0_4, .int .i64 p0_5]) [] h48 rfl (by kernel_rfl) hS49 rfl rfl (by kernel_rfl) (by kernel_rfl) ?_
     obtain ⟨t59, hg58, h⟩ := of_bind h
     refine AnyE.call 8 54 (.string t59) 92 #[.agg #[.int .i64 p0_0_0, .int .u8 p0_0_1, .int .u8 p0_0_2, .int .u16 p0_0_3, .int .i64 p0_0_4, .int .i64 p0_0_5, .int .i64 p0_1, .int .i64 p0_2, .int .i64 p0_3, .int .i64 p0_4, .int .i64 p0_5]] (by kernel_rfl) hS49 (fun _ => by kernel_rfl) (fun w hk => text_shown_n_92_ok K (fun _ => False) w p0_0_0 p0_0_1 p0_0_2 p0_0_3 p0_0_4 p0_0_5 p0_1 p0_2 p0_3 p0_4 p0_5 (fun _ hf => hf.elim) ⟨(h48.atI [] rfl hk 3 rfl rfl).1, fun hf => hf.elim, (h48.atI [] rfl hk 3 rfl rfl).2.2⟩ ⟨(h48.atI [] rfl hk 4 rfl rfl).1, fun hf => hf.elim, (h48.atI [] rfl hk 4 rfl rfl).2.2⟩ ⟨(h48.atI [] rfl hk 5 rfl rfl).1, fun hf => hf.elim, (h48.atI [] rfl hk 5 rfl rfl).2.2⟩ hg58) ?_
     obtain ⟨hc60, h⟩ := of_cond0 h
     refine AnyE.run 9 55 (.string ((⟨#[105, 110, 32, 97, 44, 40]⟩ : ByteArray) ++ t59)) (by kernel_rfl) hS49 (fun _ hk => run_cat (a := (⟨#[105, 110, 32, 97, 44, 40]⟩ : ByteArray)) (b := t59) (by kernel_rfl) hc60) ?_
     obtain ⟨hc61, h⟩ := of_cond0 h
     refine AnyE.run 10 56 (.string (((⟨#[105, 110, 32, 97, 44, 40]⟩ : ByteArray) ++ t59) ++ (⟨#[41]⟩ : ByteArray))) (by kernel_rfl) hS49 (fun _ hk => run_cat (a := ((⟨#[105, 110, 32, 97, 44, 40]⟩ : ByteArray) ++ t59)) (b := (⟨#[41]⟩ : ByteArray)) (by kernel_rfl) hc61) ?_
     refine AnyE.loadBox 11 57 6 92 b2 0 (.agg #[.int .i64 p0_0_0, .int .u8 p0_0_1, .int .u8 p0_0_2, .int .u16 p0_0_3, .int .i64 p0_0_4, .int .i64 p0_0_5, .int .i64 p0_1, .int .i64 p0_2, .int .i64 p0_3, .int .i64 p0_4, .int .i64 p0_5]) [] h48 rfl (by kernel_rfl) hS49 rfl rfl (by kernel_rfl) (by kernel_rfl) ?_
     obtain ⟨t63, hg62, h⟩ := of_bind h
     refine AnyE.call 12 58 (.string t63) 87 #[.agg #[.int .i64 p0_0_0, .int .u8 p0_0_1, .int .u8 p0_0_2, .int .u16 p0_0_3, .int .i64 p0_0_4, .int .i64 p0_0_5, .int .i64 p0_1, .int .i64 p0_2, .int .i64 p0_3, .int .i64 p0_4, .int .i64 p0_5]] (by kernel_rfl) hS49 (fun _ => by kernel_rfl) (fun w hk => text_shown_hl_87_ok K (fun _ => False) w p0_0_0 p0_0_1 p0_0_2 p0_0_3 p0_0_4 p0_0_5 p0_1 p0_2 p0_3 p0_4 p0_5 (fun _ hf => hf.elim) ⟨(h48.atI [] rfl hk 2 rfl rfl).1, fun hf => hf.elim, (h48.atI [] rfl hk 2 rfl rfl).2.2⟩ hg62) ?_
     obtain ⟨hc64, h⟩ := of_cond0 h
     refine AnyE.run 13 59 (.string ((⟨#[101, 120, 32, 40, 115, 112, 41, 44]⟩ : ByteArray) ++ t63)) (by kernel_rfl) hS49 (fun _ hk => run_cat (a := (⟨#[101, 120, 32, 40, 115, 112, 41, 44]⟩ : ByteArray)) (b := t63) (by kernel_rfl) hc64) ?_
     refine AnyE.pure 14 60 (.agg (List.flatMap (fun (x : ByteArray) => ([.string x] : List Value)) ([((⟨#[106, 112, 32]⟩ : ByteArray) ++ t52), (⟨#[112, 114, 101, 102, 105, 120]⟩ : ByteArray), (((⟨#[111, 117, 116, 32, 40]⟩ : ByteArray) ++ t55) ++ (⟨#[41, 44, 97]⟩ : ByteArray)), (((⟨#[105, 110, 32, 97, 44, 40]⟩ : ByteArray) ++ t59) ++ (⟨#[41]⟩ : ByteArray)), ((⟨#[101, 120, 32, 40, 115, 112, 41, 44]⟩ : ByteArray) ++ t63), (⟨#[101, 120, 32, 100, 101, 44, 104, 108]⟩ : ByteArray), (⟨#[100, 105]⟩ : ByteArray), (⟨#[101, 105]⟩ : ByteArray)] : List ByteArray)).toArray) (by kernel_rfl) hS49 (fun _ => by kernel_rfl) ?_
     refine AnyE.pure 15 61 (.pointer (some ⟨b2, 7, none⟩)) (by kernel_rfl) hS49 (fun _ => by kernel_rfl) ?_
     refine AnyE.loadBox 16 62 6 3 b2 7 (.int .i64 p0_2) [] h48 rfl (by kernel_rfl) hS49 rfl rfl (by kernel_rfl) (by kernel_rfl) ?_
     obtain ⟨hc65, h⟩ := of_cond0 h
     refine AnyE.run 17 63 (.string (rdD ([((⟨#[106, 112, 32]⟩ : ByteArray) ++ t52), (⟨#[112, 114, 101, 102, 105, 120]⟩ : ByteArray), (((⟨#[111, 117, 116, 32, 40]⟩ : ByteArray) ++ t55) ++ (⟨#[41, 44, 97]⟩ : ByteArray)), (((⟨#[105, 110, 32, 97, 44, 40]⟩ : ByteArray) ++ t59) ++ (⟨#[41]⟩ : ByteArray)), ((⟨#[101, 120, 32, 40, 115, 112, 41, 44]⟩ : ByteArray) ++ t63), (⟨#[101, 120, 32, 100, 101, 44, 104, 108]⟩ : ByteArray), (⟨#[100, 105]⟩ : ByteArray), (⟨#[101, 105]⟩ : ByteArray)] : List ByteArray) p0_2)) (by kernel_rfl) hS49 (fun _ hk => run_indexTab (T0 := 122) (en := (fun (x : ByteArray) => ([.string x] : List Value))) (tab := ([((⟨#[106, 112, 32]⟩ : ByteArray) ++ t52), (⟨#[112, 114, 101, 102, 105, 120]⟩ : ByteArray), (((⟨#[111, 117, 116, 32, 40]⟩ : ByteArray) ++ t55) ++ (⟨#[41, 44, 97]⟩ : ByteArray)), (((⟨#[105, 110, 32, 97, 44, 40]⟩ : ByteArray) ++ t59) ++ (⟨#[41]⟩ : ByteArray)), ((⟨#[101, 120, 32, 40, 115, 112, 41, 44]⟩ : ByteArray) ++ t63), (⟨#[101, 120, 32, 100, 101, 44, 104, 108]⟩ : ByteArray), (⟨#[100, 105]⟩ : ByteArray), (⟨#[101, 105]⟩ : ByteArray)] : List ByteArray)) (len := 8) (sz := 1) (j := p0_2) (v := .string (rdD ([((⟨#[106, 112, 32]⟩ : ByteArray) ++ t52), (⟨#[112, 114, 101, 102, 105, 120]⟩ : ByteArray), (((⟨#[111, 117, 116, 32, 40]⟩ : ByteArray) ++ t55) ++ (⟨#[41, 44, 97]⟩ : ByteArray)), (((⟨#[105, 110, 32, 97, 44, 40]⟩ : ByteArray) ++ t59) ++ (⟨#[41]⟩ : ByteArray)), ((⟨#[101, 120, 32, 40, 115, 112, 41, 44]⟩ : ByteArray) ++ t63), (⟨#[101, 120, 32, 100, 101, 44, 104, 108]⟩ : ByteArray), (⟨#[100, 105]⟩ : ByteArray), (⟨#[101, 105]⟩ : ByteArray)] : List ByteArray) p0_2)) (fun _ => rfl) (by kernel_rfl) (by kernel_rfl) rfl hc65 (fun _ => by kernel_rfl)) ?_
     refine AnyE.pure 18 2 (.string (rdD ([((⟨#[106, 112, 32]⟩ : ByteArray) ++ t52), (⟨#[112, 114, 101, 102, 105, 120]⟩ : ByteArray), (((⟨#[111, 117, 116, 32, 40]⟩ : ByteArray) ++ t55) ++ (⟨#[41, 44, 97]⟩ : ByteArray)), (((⟨#[105, 110, 32, 97, 44, 40]⟩ : ByteArray) ++ t59) ++ (⟨#[41]⟩ : ByteArray)), ((⟨#[101, 120, 32, 40, 115, 112, 41, 44]⟩ : ByteArray) ++ t63), (⟨#[101, 120, 32, 100, 101, 44, 104, 108]⟩ : ByteArray), (⟨#[100, 105]⟩ : ByteArray), (⟨#[101, 105]⟩ : ByteArray)] : List ByteArray) p0_2)) (by kernel_rfl) hS49 (fun _ => by kernel_rfl) ?_
     refine AnyE.done (by kernel_rfl) (fun w66 hu67 => ?_)
     have h68 := h48.call hu67
     refine RunsI.l [2] [(2, .string (rdD ([((⟨#[106, 112, 32]⟩ : ByteArray) ++ t52), (⟨#[112, 114, 101, 102, 105, 120]⟩ : ByteArray), (((⟨#[111, 117, 116, 32, 40]⟩ : ByteArray) ++ t55) ++ (⟨#[41, 44, 97]⟩ : ByteArray)), (((⟨#[105, 110, 32, 97, 44, 40]⟩ : ByteArray) ++ t59) ++ (⟨#[41]⟩ : ByteArray)), ((⟨#[101, 120, 32, 40, 115, 112, 41, 44]⟩ : ByteArray) ++ t63), (⟨#[101, 120, 32, 100, 101, 44, 104, 108]⟩ : ByteArray), (⟨#[100, 105]⟩ : ByteArray), (⟨#[101, 105]⟩ : ByteArray)] : List ByteArray) p0_2))] ?_
     refine RunsI.t (.string (rdD ([((⟨#[106, 112, 32]⟩ : ByteArray) ++ t52), (⟨#[112, 114, 101, 102, 105, 120]⟩ : ByteArray), (((⟨#[111, 117, 116, 32, 40]⟩ : ByteArray) ++ t55) ++ (⟨#[41, 44, 97]⟩ : ByteArray)), (((⟨#[105, 110, 32, 97, 44, 40]⟩ : ByteArray) ++ t59) ++ (⟨#[41]⟩ : ByteArray)), ((⟨#[101, 120, 32, 40, 115, 112, 41, 44]⟩ : ByteArray) ++ t63), (⟨#[101, 120, 32, 100, 101, 44, 104, 108]⟩ : ByteArray), (⟨#[100, 105]⟩ : ByteArray), (⟨#[101, 105]⟩ : ByteArray)] : List ByteArray) p0_2)) ?_
     obtain rfl := Option.some.inj h
     exact ⟨rfl, h68.below⟩
    ·skip
     refine RunsI.f 44 false hc46 ?_
     refine RunsI.b false 38 ?_
     refine RunsI.g 1 [.c 39, .c 40, .blk 0, .c 72] ?_
     refine RunsI.r ?_
     refine RegI.p 2 [(1, .pointer (some ⟨b2, 0, none⟩)), (4, .int .i64 p0_3), (64, .bool (p0_3 == 4))] ?_
     refine RegI.d ?_
     rcases of_cond h with ⟨hc69, h⟩ | ⟨hc69, h⟩
     ·skip
      refine RunsI.f 64 true hc69 ?_
      refine RunsI.b true 41 ?_
      refine RunsI.g 1 [.c 42, .c 43, .blk 0, .c 72] ?_
      refine RunsI.any 10 (by kernel_rfl) (by kernel_rfl) (by kernel_rfl) (Kp ([] : List Nat) (World.drew w1)) ?_
      have h71 := h3.drew
      generalize World.drew w1 = w70 at h71 ⊢
      have hS72 := Kp.refl ([] : List Nat) w70
      refine AnyE.pure 0 66 (.pointer (some ⟨b2, 7, none⟩)) (by kernel_rfl) hS72 (fun _ => by kernel_rfl) ?_
      refine AnyE.loadBox 1 67 6 3 b2 7 (.int .i64 p0_2) [] h71 rfl (by kernel_rfl) hS72 rfl rfl (by kernel_rfl) (by kernel_rfl) ?_
      obtain ⟨hc74, h⟩ := of_cond0 h
      refine AnyE.run 2 68 (.pointer (some ⟨0, 0 + (Int.toNat p0_2) * 1, none⟩)) (by kernel_rfl) hS72 (fun _ hk => run_idxArr (T := 122) (b := 0) (o := 0) (ix := p0_2) (len := 8) (s := 1) (by kernel_rfl) (by kernel_rfl) hc74) ?_
      refine AnyE.loadTab 3 69 0 9 en_0 tab_0 0 1 p0_2 (.string (rdD tab_0 p0_2)) [] (o := 0 + (Int.toNat p0_2) * 1 + 0) h71 rfl (by kernel_rfl) hS72 rfl rfl (fun _ => rfl) (by kernel_rfl) (by omega) hc74 (fun _ => by kernel_rfl) ?_
      obtain ⟨hc75, h⟩ := of_cond0 h
      refine AnyE.run 4 70 (.string ((⟨#[99, 97, 108, 108, 32]⟩ : ByteArray) ++ (rdD tab_0 p0_2))) (by kernel_rfl) hS72 (fun _ hk => run_cat (a := (⟨#[99, 97, 108, 108, 32]⟩ : ByteArray)) (b := (rdD tab_0 p0_2)) (by kernel_rfl) hc75) ?_
      obtain ⟨hc76, h⟩ := of_cond0 h
      refine AnyE.run 5 71 (.string (((⟨#[99, 97, 108, 108, 32]⟩ : ByteArray) ++ (rdD tab_0 p0_2)) ++ (⟨#[44]⟩ : ByteArray))) (by kernel_rfl) hS72 (fun _ hk => run_cat (a := ((⟨#[99, 97, 108, 108, 32]⟩ : ByteArray) ++ (rdD tab_0 p0_2))) (b := (⟨#[44]⟩ : ByteArray)) (by kernel_rfl) hc76) ?_
      refine AnyE.loadBox 6 72 6 92 b2 0 (.agg #[.int .i64 p0_0_0, .int .u8 p0_0_1, .int .u8 p0_0_2, .int .u16 p0_0_3, .int .i64 p0_0_4, .int .i64 p0_0_5, .int .i64 p0_1, .int .i64 p0_2, .int .i64 p0_3, .int .i64 p0_4, .int .i64 p0_5]) [] h71 rfl (by kernel_rfl) hS72 rfl rfl (by kernel_rfl) (by kernel_rfl) ?_
      obtain ⟨t78, hg77, h⟩ := of_bind h
      refine AnyE.call 7 73 (.string t78) 89 #[.agg #[.int .i64 p0_0_0, .int .u8 p0_0_1, .int .u8 p0_0_2, .int .u16 p0_0_3, .int .i64 p0_0_4, .int .i64 p0_0_5, .int .i64 p0_1, .int .i64 p0_2, .int .i64 p0_3, .int .i64 p0_4, .int .i64 p0_5]] (by kernel_rfl) hS72 (fun _ => by kernel_rfl) (fun w hk => text_shown_nn_89_ok K (fun _ => False) w p0_0_0 p0_0_1 p0_0_2 p0_0_3 p0_0_4 p0_0_5 p0_1 p0_2 p0_3 p0_4 p0_5 (fun _ hf => hf.elim) ⟨(h71.atI [] rfl hk 3 rfl rfl).1, fun hf => hf.elim, (h71.atI [] rfl hk 3 rfl rfl).2.2⟩ ⟨(h71.atI [] rfl hk 4 rfl rfl).1, fun hf => hf.elim, (h71.atI [] rfl hk 4 rfl rfl).2.2⟩ ⟨(h71.atI [] rfl hk 5 rfl rfl).1, fun hf => hf.elim, (h71.atI [] rfl hk 5 rfl rfl).2.2⟩ hg77) ?_
      obtain ⟨hc79, h⟩ := of_cond0 h
      refine AnyE.run 8 74 (.string ((((⟨#[99, 97, 108, 108, 32]⟩ : ByteArray) ++ (rdD tab_0 p0_2)) ++ (⟨#[44]⟩ : ByteArray)) ++ t78)) (by kernel_rfl) hS72 (fun _ hk => run_cat (a := (((⟨#[99, 97, 108, 108, 32]⟩ : ByteArray) ++ (rdD tab_0 p0_2)) ++ (⟨#[44]⟩ : ByteArray))) (b := t78) (by kernel_rfl) hc79) ?_
      refine AnyE.pure 9 2 (.string ((((⟨#[99, 97, 108, 108, 32]⟩ : ByteArray) ++ (rdD tab_0 p0_2)) ++ (⟨#[44]⟩ : ByteArray)) ++ t78)) (by kernel_rfl) hS72 (fun _ => by kernel_rfl) ?_
      refine AnyE.done (by kernel_rfl) (fun w80 hu81 => ?_)
      have h82 := h71.call hu81
      refine RunsI.l [2] [(2, .string ((((⟨#[99, 97, 108, 108, 32]⟩ : ByteArray) ++ (rdD tab_0 p0_2)) ++ (⟨#[44]⟩ : ByteArray)) ++ t78))] ?_
      refine RunsI.t (.string ((((⟨#[99, 97, 108, 108, 32]⟩ : ByteArray) ++ (rdD tab_0 p0_2)) ++ (⟨#[44]⟩ : ByteArray)) ++ t78)) ?_
      obtain rfl := Option.some.inj h
      exact ⟨rfl, h82.below⟩
     ·skip
      refine RunsI.f 64 false hc69 ?_
      refine RunsI.b false 44 ?_
      refine RunsI.g 1 [.c 45, .c 46, .blk 0, .c 72] ?_
      refine RunsI.r ?_
      refine RegI.p 2 [(1, .pointer (some ⟨b2, 0, none⟩)), (4, .int .i64 p0_3), (75, .bool (p0_3 == 5))] ?_
      refine RegI.d ?_
      rcases of_cond h with ⟨hc83, h⟩ | ⟨hc83, h⟩
      ·skip
       refine RunsI.f 75 true hc83 ?_
       refine RunsI.b true 47 ?_
       refine RunsI.g 3 [.c 50, .c 51, .blk 1, .c 62, .blk 0, .c 72] ?_
       refine RunsI.r ?_
       refine RegI.p 1 [(1, .pointer (some ⟨b2, 0, none⟩)), (78, .pointer (some ⟨b2, 10, none⟩))] ?_
       refine RegI.o (OpE.loadBox 79 6 3 b2 10 (.int .i64 p0_5) h3 (by kernel_rfl) (by kernel_rfl) rfl (by kernel_rfl) ?_)
       refine RegI.p 2 [(1, .pointer (some ⟨b2, 0, none⟩)), (77, .bool (p0_5 == 0))] ?_
       refine RegI.d ?_
       rcases of_cond h with ⟨hc84, h⟩ | ⟨hc84, h⟩
       ·skip
        refine RunsI.f 77 true hc84 ?_
        refine RunsI.b true 52 ?_
        refine RunsI.g 1 [.c 53, .c 54, .blk 1, .c 62, .blk 0, .c 72] ?_
        refine RunsI.r ?_
        refine RegI.o (OpE.loadBox 81 6 92 b2 0 (.agg #[.int .i64 p0_0_0, .int .u8 p0_0_1, .int .u8 p0_0_2, .int .u16 p0_0_3, .int .i64 p0_0_4, .int .i64 p0_0_5, .int .i64 p0_1, .int .i64 p0_2, .int .i64 p0_3, .int .i64 p0_4, .int .i64 p0_5]) h3 (by kernel_rfl) (by kernel_rfl) rfl (by kernel_rfl) ?_)
        refine RegI.p 1 [(81, .agg #[.int .i64 p0_0_0, .int .u8 p0_0_1, .int .u8 p0_0_2, .int .u16 p0_0_3, .int .i64 p0_0_4, .int .i64 p0_0_5, .int .i64 p0_1, .int .i64 p0_2, .int .i64 p0_3, .int .i64 p0_4, .int .i64 p0_5]), (82, .pointer (some ⟨b2, 9, none⟩))] ?_
        refine RegI.o (OpE.loadBox 83 6 3 b2 9 (.int .i64 p0_4) h3 (by kernel_rfl) (by kernel_rfl) rfl (by kernel_rfl) ?_)
        obtain ⟨t89, hg88, h⟩ := of_bind h
        refine RegI.o (OpE.call 84 (by kernel_rfl) 88 #[.agg #[.int .i64 p0_0_0, .int .u8 p0_0_1, .int .u8 p0_0_2, .int .u16 p0_0_3, .int .i64 p0_0_4, .int .i64 p0_0_5, .int .i64 p0_1, .int .i64 p0_2, .int .i64 p0_3, .int .i64 p0_4, .int .i64 p0_5], .int .i64 p0_4, .bool true] (by kernel_rfl) ((text_shown_pair_88_ok K _ w1  p0_0_0 p0_0_1 p0_0_2 p0_0_3 p0_0_4 p0_0_5 p0_1 p0_2 p0_3 p0_4 p0_5 p0_4 true h3.old' (h3.get 2 rfl) hg88).mono ?_))
        rintro _ w85 ⟨rfl, hb86⟩
        refine ⟨_, rfl, ?_⟩
        have h87 := h3.call hb86
        obtain ⟨hc90, h⟩ := of_cond0 h
        refine RegI.o (OpE.run 85 (by kernel_rfl) (run_cat (a := (⟨#[112, 117, 115, 104, 32]⟩ : ByteArray)) (b := t89) (by kernel_rfl) hc90) ?_)
        refine RegI.p 1 [(2, .string ((⟨#[112, 117, 115, 104, 32]⟩ : ByteArray) ++ t89))] ?_
        refine RegI.d ?_
        refine RunsI.t (.string ((⟨#[112, 117, 115, 104, 32]⟩ : ByteArray) ++ t89)) ?_
        obtain rfl := Option.some.inj h
        exact ⟨rfl, h87.below⟩
       ·skip
        refine RunsI.f 77 false hc84 ?_
        refine RunsI.b false 55 ?_
        refine RunsI.g 1 [.c 56, .c 57, .blk 1, .c 62, .blk 0, .c 72] ?_
        refine RunsI.r ?_
        refine RegI.p 1 [(1, .pointer (some ⟨b2, 0, none⟩)), (87, .pointer (some ⟨b2, 9, none⟩))] ?_
        refine RegI.o (OpE.loadBox 88 6 3 b2 9 (.int .i64 p0_4) h3 (by kernel_rfl) (by kernel_rfl) rfl (by kernel_rfl) ?_)
        refine RegI.p 2 [(1, .pointer (some ⟨b2, 0, none⟩)), (86, .bool (p0_4 == 0))] ?_
        refine RegI.d ?_
        rcases of_cond h with ⟨hc91, h⟩ | ⟨hc91, h⟩
        ·skip
         refine RunsI.f 86 true hc91 ?_
         refine RunsI.b true 58 ?_
         refine RunsI.g 1 [.c 59, .c 60, .blk 1, .c 62, .blk 0, .c 72] ?_
         refine RunsI.r ?_
         refine RegI.o (OpE.loadBox 90 6 92 b2 0 (.agg #[.int .i64 p0_0_0, .int .u8 p0_0_1, .int .u8 p0_0_2, .int .u16 p0_0_3, .int .i64 p0_0_4, .int .i64 p0_0_5, .int .i64 p0_1, .int .i64 p0_2, .int .i64 p0_3, .int .i64 p0_4, .int .i64 p0_5]) h3 (by kernel_rfl) (by kernel_rfl) rfl (by kernel_rfl) ?_)
         obtain ⟨t96, hg95, h⟩ := of_bind h
         refine RegI.o (OpE.call 91 (by kernel_rfl) 89 #[.agg #[.int .i64 p0_0_0, .int .u8 p0_0_1, .int .u8 p0_0_2, .int .u16 p0_0_3, .int .i64 p0_0_4, .int .i64 p0_0_5, .int .i64 p0_1, .int .i64 p0_2, .int .i64 p0_3, .int .i64 p0_4, .int .i64 p0_5]] (by kernel_rfl) ((text_shown_nn_89_ok K _ w1  p0_0_0 p0_0_1 p0_0_2 p0_0_3 p0_0_4 p0_0_5 p0_1 p0_2 p0_3 p0_4 p0_5 h3.old' (h3.get 3 rfl) (h3.get 4 rfl) (h3.get 5 rfl) hg95).mono ?_))
         rintro _ w92 ⟨rfl, hb93⟩
         refine ⟨_, rfl, ?_⟩
         have h94 := h3.call hb93
         obtain ⟨hc97, h⟩ := of_cond0 h
         refine RegI.o (OpE.run 92 (by kernel_rfl) (run_cat (a := (⟨#[99, 97, 108, 108, 32]⟩ : ByteArray)) (b := t96) (by kernel_rfl) hc97) ?_)
         refine RegI.p 1 [(2, .string ((⟨#[99, 97, 108, 108, 32]⟩ : ByteArray) ++ t96))] ?_
         refine RegI.d ?_
         refine RunsI.t (.string ((⟨#[99, 97, 108, 108, 32]⟩ : ByteArray) ++ t96)) ?_
         obtain rfl := Option.some.inj h
         exact ⟨rfl, h94.below⟩
        ·skip
         refine RunsI.f 86 false hc91 ?_
         refine RunsI.b false 61 ?_
         refine RunsI.g 1 [.blk 1, .c 62, .blk 0, .c 72] ?_
         refine RunsI.g 2 [.c 63, .c 64, .blk 0, .c 72] ?_
         refine RunsI.r ?_
         refine RegI.p 1 [(2, .string (⟨#[112, 114, 101, 102, 105, 120]⟩ : ByteArray))] ?_
         refine RegI.d ?_
         refine RunsI.t (.string (⟨#[112, 114, 101, 102, 105, 120]⟩ : ByteArray)) ?_
         obtain rfl := Option.some.inj h
         exact ⟨rfl, h3.below⟩
      ·skip
       refine RunsI.f 75 false hc83 ?_
       refine RunsI.b false 65 ?_
       refine RunsI.g 1 [.c 66, .c 67, .blk 0, .c 72] ?_
       refine RunsI.r ?_
       refine RegI.p 2 [(1, .pointer (some ⟨b2, 0, none⟩)), (93, .bool (p0_3 == 6))] ?_
       refine RegI.d ?_
       rcases of_cond h with ⟨hc98, h⟩ | ⟨hc98, h⟩
       ·skip
        refine RunsI.f 93 true hc98 ?_
        refine RunsI.b true 68 ?_
        refine RunsI.g 1 [.c 69, .c 70, .blk 0, .c 72] ?_
        refine RunsI.any 8 (by kernel_rfl) (by kernel_rfl) (by kernel_rfl) (Kp ([] : List Nat) (World.drew w1)) ?_
        have h100 := h3.drew
        generalize World.drew w1 = w99 at h100 ⊢
        have hS101 := Kp.refl ([] : List Nat) w99
        refine AnyE.pure 0 95 (.pointer (some ⟨b2, 7, none⟩)) (by kernel_rfl) hS101 (fun _ => by kernel_rfl) ?_
        refine AnyE.loadBox 1 96 6 3 b2 7 (.int .i64 p0_2) [] h100 rfl (by kernel_rfl) hS101 rfl rfl (by kernel_rfl) (by kernel_rfl) ?_
        obtain ⟨hc103, h⟩ := of_cond0 h
        refine AnyE.run 2 97 (.pointer (some ⟨2, 0 + (Int.toNat p0_2) * 1, none⟩)) (by kernel_rfl) hS101 (fun _ hk => run_idxArr (T := 122) (b := 2) (o := 0) (ix := p0_2) (len := 8) (s := 1) (by kernel_rfl) (by kernel_rfl) hc103) ?_
        refine AnyE.loadTab 3 98 1 9 en_2 tab_2 0 1 p0_2 (.string (rdD tab_2 p0_2)) [] (o := 0 + (Int.toNat p0_2) * 1 + 0) h100 rfl (by kernel_rfl) hS101 rfl rfl (fun _ => rfl) (by kernel_rfl) (by omega) hc103 (fun _ => by kernel_rfl) ?_
        refine AnyE.loadBox 4 99 6 92 b2 0 (.agg #[.int .i64 p0_0_0, .int .u8 p0_0_1, .int .u8 p0_0_2, .int .u16 p0_0_3, .int .i64 p0_0_4, .int .i64 p0_0_5, .int .i64 p0_1, .int .i64 p0_2, .int .i64 p0_3, .int .i64 p0_4, .int .i64 p0_5]) [] h100 rfl (by kernel_rfl) hS101 rfl rfl (by kernel_rfl) (by kernel_rfl) ?_
        obtain ⟨t105, hg104, h⟩ := of_bind h
        refine AnyE.call 5 100 (.string t105) 92 #[.agg #[.int .i64 p0_0_0, .int .u8 p0_0_1, .int .u8 p0_0_2, .int .u16 p0_0_3, .int .i64 p0_0_4, .int .i64 p0_0_5, .int .i64 p0_1, .int .i64 p0_2, .int .i64 p0_3, .int .i64 p0_4, .int .i64 p0_5]] (by kernel_rfl) hS101 (fun _ => by kernel_rfl) (fun w hk => text_shown_n_92_ok K (fun _ => False) w p0_0_0 p0_0_1 p0_0_2 p0_0_3 p0_0_4 p0_0_5 p0_1 p0_2 p0_3 p0_4 p0_5 (fun _ hf => hf.elim) ⟨(h100.atI [] rfl hk 3 rfl rfl).1, fun hf => hf.elim, (h100.atI [] rfl hk 3 rfl rfl).2.2⟩ ⟨(h100.atI [] rfl hk 4 rfl rfl).1, fun hf => hf.elim, (h100.atI [] rfl hk 4 rfl rfl).2.2⟩ ⟨(h100.atI [] rfl hk 5 rfl rfl).1, fun hf => hf.elim, (h100.atI [] rfl hk 5 rfl rfl).2.2⟩ hg104) ?_
        obtain ⟨hc106, h⟩ := of_cond0 h
        refine AnyE.run 6 101 (.string ((rdD tab_2 p0_2) ++ t105)) (by kernel_rfl) hS101 (fun _ hk => run_cat (a := (rdD tab_2 p0_2)) (b := t105) (by kernel_rfl) hc106) ?_
        refine AnyE.pure 7 2 (.string ((rdD tab_2 p0_2) ++ t105)) (by kernel_rfl) hS101 (fun _ => by kernel_rfl) ?_
        refine AnyE.done (by kernel_rfl) (fun w107 hu108 => ?_)
        have h109 := h100.call hu108
        refine RunsI.l [2] [(2, .string ((rdD tab_2 p0_2) ++ t105))] ?_
        refine RunsI.t (.string ((rdD tab_2 p0_2) ++ t105)) ?_
        obtain rfl := Option.some.inj h
        exact ⟨rfl, h109.below⟩
       ·skip
        refine RunsI.f 93 false hc98 ?_
        refine RunsI.b false 71 ?_
        refine RunsI.g 1 [.blk 0, .c 72] ?_
        refine RunsI.g 2 [.c 73, .c 74] ?_
        refine RunsI.r ?_
        refine RegI.p 1 [(102, .pointer (some ⟨b2, 7, none⟩))] ?_
        refine RegI.o (OpE.loadBox 103 6 3 b2 7 (.int .i64 p0_2) h3 (by kernel_rfl) (by kernel_rfl) rfl (by kernel_rfl) ?_)
        refine RegI.p 1 [(104, .int .i64 (IntKind.wrap .i64 (8 * p0_2)))] ?_
        obtain ⟨t114, hg113, h⟩ := of_bind h
        refine RegI.o (OpE.call 105 (by kernel_rfl) 48 #[.int .i64 (IntKind.wrap .i64 (8 * p0_2)), .int .i64 2] (by kernel_rfl) ((text_Hex_48_ok K _ w1  (IntKind.wrap .i64 (8 * p0_2)) 2 h3.old' (h3.get 3 rfl) (h3.get 4 rfl) (h3.get 5 rfl) hg113).mono ?_))
        rintro _ w110 ⟨rfl, hb111⟩
        refine ⟨_, rfl, ?_⟩
        have h112 := h3.call hb111
        obtain ⟨hc115, h⟩ := of_cond0 h
        refine RegI.o (OpE.run 106 (by kernel_rfl) (run_cat (a := (⟨#[114, 115, 116, 32]⟩ : ByteArray)) (b := t114) (by kernel_rfl) hc115) ?_)
        refine RegI.p 1 [(2, .string ((⟨#[114, 115, 116, 32]⟩ : ByteArray) ++ t114))] ?_
        refine RegI.d ?_
        refine RunsI.t (.string ((⟨#[114, 115, 116, 32]⟩ : ByteArray) ++ t114)) ?_
        obtain rfl := Option.some.inj h
        exact ⟨rfl, h112.below⟩
end

/-! ### (charabanc/text.shown).far (function 55) -/
section
def text_shown_far_55.post (M0 : Nat → Prop) (w0 : World) (r : ByteArray) : Ending → World → Prop := fun e w => e = .returned (.string r) ∧ Below w0.heap.size w0 w
def text_shown_far_55.f (K : Nat) (p0_0_0 : Int) (p0_0_1 : Int) (p0_0_2 : Int) (p0_0_3 : Int) (p0_0_4 : Int) (p0_0_5 : Int) (p0_1 : Int) (p0_2 : Int) (p0_3 : Int) (p0_4 : Int) (p0_5 : Int) : Option ByteArray := Let (fun (t8 : Bool) => cond t8 (Let (fun (t16 : Bool) => cond t16 (cond (inR (IntKind.wrap .i64 (p0_2 - 4)) 4) (cond (mayCat (⟨#[111, 117, 116]⟩ : ByteArray).size (rdD tab_3 (IntKind.wrap .i64 (p0_2 - 4))).size) (some ((⟨#[111, 117, 116]⟩ : ByteArray) ++ (rdD tab_3 (IntKind.wrap .i64 (p0_2 - 4))))) none) none) (cond (inR p0_3 4) (cond (inR (IntKind.wrap .i64 (p0_2 - 4)) 4) (cond (mayCat (rdD tab_4 p0_3).size (rdD tab_3 (IntKind.wrap .i64 (p0_2 - 4))).size) (some ((rdD tab_4 p0_3) ++ (rdD tab_3 (IntKind.wrap .i64 (p0_2 - 4))))) none) none) none)) (fun j19 => cond (p0_3 == 3) (j19 (decide (p0_2 < 6))) (j19 false))) (cond (p0_1 != 1) (some (⟨#[110, 111, 112, 42]⟩ : ByteArray)) (cond (inR p0_2 8) (cond (p0_3 == 0) (cond (p0_2 == 6) (cond (mayCat (⟨#[105, 110, 32]⟩ : ByteArray).size (⟨#[102]⟩ : ByteArray).size) (cond (mayCat ((⟨#[105, 110, 32]⟩ : ByteArray) ++ (⟨#[102]⟩ : ByteArray)).size (⟨#[44, 40, 99, 41]⟩ : ByteArray).size) (some (((⟨#[105, 110, 32]⟩ : ByteArray) ++ (⟨#[102]⟩ : ByteArray)) ++ (⟨#[44, 40, 99, 41]⟩ : ByteArray))) none) none) (cond (mayCat (⟨#[105, 110, 32]⟩ : ByteArray).size (rdD tab_5 p0_2).size) (cond (mayCat ((⟨#[105, 110, 32]⟩ : ByteArray) ++ (rdD tab_5 p0_2)).size (⟨#[44, 40, 99, 41]⟩ : ByteArray).size) (some (((⟨#[105, 110, 32]⟩ : ByteArray) ++ (rdD tab_5 p0_2)) ++ (⟨#[44, 40, 99, 41]⟩ : ByteArray))) none) none)) (cond (p0_3 == 1) (cond (p0_2 == 6) (cond (mayCat (⟨#[111, 117, 116, 32, 40, 99, 41, 44]⟩ : ByteArray).size (⟨#[48]⟩ : ByteArray).size) (some ((⟨#[111, 117, 116, 32, 40, 99, 41, 44]⟩ : ByteArray) ++ (⟨#[48]⟩ : ByteArray))) none) (cond (mayCat (⟨#[111, 117, 116, 32, 40, 99, 41, 44]⟩ : ByteArray).size (rdD tab_5 p0_2).size) (some ((⟨#[111, 117, 116, 32, 40, 99, 41, 44]⟩ : ByteArray) ++ (rdD tab_5 p0_2))) none)) (cond (p0_3 == 2) (cond (inR p0_5 2) (cond (inR p0_4 5) (cond (mayCat (rdD ([(⟨#[115, 98, 99, 32, 104, 108, 44]⟩ : ByteArray), (⟨#[97, 100, 99, 32, 104, 108, 44]⟩ : ByteArray)] : List ByteArray) p0_5).size (rdD tab_6 p0_4).size) (some ((rdD ([(⟨#[115, 98, 99, 32, 104, 108, 44]⟩ : ByteArray), (⟨#[97, 100, 99, 32, 104, 108, 44]⟩ : ByteArray)] : List ByteArray) p0_5) ++ (rdD tab_6 p0_4))) none) none) none) (cond (p0_3 == 3) (cond (p0_5 == 1) (cond (inR p0_4 5) (cond (mayCat (⟨#[108, 100, 32]⟩ : ByteArray).size (rdD tab_6 p0_4).size) (cond (mayCat ((⟨#[108, 100, 32]⟩ : ByteArray) ++ (rdD tab_6 p0_4)).size (⟨#[44, 40]⟩ : ByteArray).size) ((text_shown_nn_89.f K p0_0_0 p0_0_1 p0_0_2 p0_0_3 p0_0_4 p0_0_5 p0_1 p0_2 p0_3 p0_4 p0_5).bind fun t68 => cond (mayCat (((⟨#[108, 100, 32]⟩ : ByteArray) ++ (rdD tab_6 p0_4)) ++ (⟨#[44, 40]⟩ : ByteArray)).size t68.size) (cond (mayCat ((((⟨#[108, 100, 32]⟩ : ByteArray) ++ (rdD tab_6 p0_4)) ++ (⟨#[44, 40]⟩ : ByteArray)) ++ t68).size (⟨#[41]⟩ : ByteArray).size) (some (((((⟨#[108, 100, 32]⟩ : ByteArray) ++ (rdD tab_6 p0_4)) ++ (⟨#[44, 40]⟩ : ByteArray)) ++ t68) ++ (⟨#[41]⟩ : ByteArray))) none) none) none) none) none) ((text_shown_nn_89.f K p0_0_0 p0_0_1 p0_0_2 p0_0_3 p0_0_4 p0_0_5 p0_1 p0_2 p0_3 p0_4 p0_5).bind fun t79 => cond (mayCat (⟨#[108, 100, 32, 40]⟩ : ByteArray).size t79.size) (cond (mayCat ((⟨#[108, 100, 32, 40]⟩ : ByteArray) ++ t79).size (⟨#[41, 44]⟩ : ByteArray).size) (cond (inR p0_4 5) (cond (mayCat (((⟨#[108, 100, 32, 40]⟩ : ByteArray) ++ t79) ++ (⟨#[41, 44]⟩ : ByteArray)).size (rdD tab_6 p0_4).size) (some ((((⟨#[108, 100, 32, 40]⟩ : ByteArray) ++ t79) ++ (⟨#[41, 44]⟩ : ByteArray)) ++ (rdD tab_6 p0_4))) none) none) none) none)) (cond (p0_3 == 4) (some (⟨#[110, 101, 103]⟩ : ByteArray)) (cond (p0_3 == 5) (cond (p0_2 == 1) (some (⟨#[114, 101, 116, 105]⟩ : ByteArray)) (some (⟨#[114, 101, 116, 110]⟩ : ByteArray))) (cond (p0_3 == 6) (cond (inR (band .i64 p0_2 3) 4) (some (rdD tab_7 (band .i64 p0_2 3))) none) (some (rdD tab_8 p0_2))))))))) none))) (fun j11 => cond (p0_1 == 2) (cond (decide (p0_3 < 4)) (j11 (decide (p0_2 > 3))) (j11 false)) (j11 false))
set_option maxRecDepth 100000 in
theorem text_shown_far_55_ok (K : Nat) (M0 : Nat → Prop) (w0 : World) (p0_0_0 : Int) (p0_0_1 : Int) (p0_0_2 : Int) (p0_0_3 : Int) (p0_0_4 : Int) (p0_0_5 : Int) (p0_1 : Int) (p0_2 : Int) (p0_3 : Int) (p0_4 : Int) (p0_5 : Int) (ho : ∀ b, M0 b → b < w0.heap.size) (hG3 : (gl 3 (tab_3.flatMap en_3)).ok w0 M0) (hG4 : (gl 4 (tab_4.flatMap en_4)).ok w0 M0) (hG5 : (gl 5 (tab_5.flatMap en_5)).ok w0 M0) (hG6 : (gl 6 (tab_6.flatMap en_6)).ok w0 M0) (hG7 : (gl 7 (tab_7.flatMap en_7)).ok w0 M0) (hG8 : (gl 8 (tab_8.flatMap en_8)).ok w0 M0) (hG12 : (gl 12 (tab_12.flatMap en_12)).ok w0 M0) (hG15 : (gl 15 (tab_15.flatMap en_15)).ok w0 M0) (hG16 : (gl 16 (tab_16.flatMap en_16)).ok w0 M0) {r : ByteArray} (h : text_shown_far_55.f K p0_0_0 p0_0_1 p0_0_2 p0_0_3 p0_0_4 p0_0_5 p0_1 p0_2 p0_3 p0_4 p0_5 = some r) :
  Calls Tryd.prog 55 #[.agg #[.int .i64 p0_0_0, .int .u8 p0_0_1, .int .u8 p0_0_2, .int .u16 p0_0_3, .int .i64 p0_0_4, .int .i64 p0_0_5, .int .i64 p0_1, .int .i64 p0_2, .int .i64 p0_3, .int .i64 p0_4, .int .i64 p0_5]] w0 (text_shown_far_55.post M0 w0 r) := by
 unfold text_shown_far_55.f at h
 have h0 : Holds M0 w0 w0 [] := Holds.start ho
 have h0g3 := h0.add (gl 3 (tab_3.flatMap en_3)) rfl ⟨hG3.1, fun hm => hG3.2.1 (hm.elim id (fun hm => absurd hm (by simp [mines, sl, gl]))), hG3.2.2⟩
 have h0g4 := h0g3.add (gl 4 (tab_4.flatMap en_4)) rfl ⟨hG4.1, fun hm => hG4.2.1 (hm.elim id (fun hm => absurd hm (by simp [mines, sl, gl]))), hG4.2.2⟩
 have h0g5 := h0g4.add (gl 5 (tab_5.flatMap en_5)) rfl ⟨hG5.1, fun hm => hG5.2.1 (hm.elim id (fun hm => absurd hm (by simp [mines, sl, gl]))), hG5.2.2⟩
 have h0g6 := h0g5.add (gl 6 (tab_6.flatMap en_6)) rfl ⟨hG6.1, fun hm => hG6.2.1 (hm.elim id (fun hm => absurd hm (by simp [mines, sl, gl]))), hG6.2.2⟩
 have h0g7 := h0g6.add (gl 7 (tab_7.flatMap en_7)) rfl ⟨hG7.1, fun hm => hG7.2.1 (hm.elim id (fun hm => absurd hm (by simp [mines, sl, gl]))), hG7.2.2⟩
 have h0g8 := h0g7.add (gl 8 (tab_8.flatMap en_8)) rfl ⟨hG8.1, fun hm => hG8.2.1 (hm.elim id (fun hm => absurd hm (by simp [mines, sl, gl]))), hG8.2.2⟩
 have h0g12 := h0g8.add (gl 12 (tab_12.flatMap en_12)) rfl ⟨hG12.1, fun hm => hG12.2.1 (hm.elim id (fun hm => absurd hm (by simp [mines, sl, gl]))), hG12.2.2⟩
 have h0g15 := h0g12.add (gl 15 (tab_15.flatMap en_15)) rfl ⟨hG15.1, fun hm => hG15.2.1 (hm.elim id (fun hm => absurd hm (by simp [mines, sl, gl]))), hG15.2.2⟩
 have h0g16 := h0g15.add (gl 16 (tab_16.flatMap en_16)) rfl ⟨hG16.1, fun hm => hG16.2.1 (hm.elim id (fun hm => absurd hm (by simp [mines, sl, gl]))), hG16.2.2⟩
 have h0 : Holds M0 w0 w0 [gl 3 (tab_3.flatMap en_3), gl 4 (tab_4.flatMap en_4), gl 5 (tab_5.flatMap en_5), gl 6 (tab_6.flatMap en_6), gl 7 (tab_7.flatMap en_7), gl 8 (tab_8.flatMap en_8), gl 12 (tab_12.flatMap en_12), gl 15 (tab_15.flatMap en_15), gl 16 (tab_16.flatMap en_16)] := h0g16
 refine calls_of F55 rfl [.agg #[.int .i64 p0_0_0, .int .u8 p0_0_1, .int .u8 p0_0_2, .int .u16 p0_0_3, .int .i64 p0_0_4, .int .i64 p0_0_5, .int .i64 p0_1, .int .i64 p0_2, .int .i64 p0_3, .int .i64 p0_4, .int .i64 p0_5]] (by kernel_rfl) ?_
 refine RunsI.g 1 [.c 1, .c 2] ?_
 refine RunsI.r ?_
 refine RegI.o (OpE.box 1 92 [.int .i64 p0_0_0, .int .u8 p0_0_1, .int .u8 p0_0_2, .int .u16 p0_0_3, .int .i64 p0_0_4, .int .i64 p0_0_5, .int .i64 p0_1, .int .i64 p0_2, .int .i64 p0_3, .int .i64 p0_4, .int .i64 p0_5] h0 (by kernel_rfl) (by kernel_rfl) ?_)
 intro w1 b2 h3 hb4 hn5
 refine RegI.p 1 [(1, .pointer (some ⟨b2, 0, none⟩))] ?_
 refine RegI.d ?_
 refine RunsI.g 3 [.c 5, .c 6, .blk 0, .c 25] ?_
 refine RunsI.r ?_
 refine RegI.p 1 [(1, .pointer (some ⟨b2, 0, none⟩)), (5, .pointer (some ⟨b2, 6, none⟩))] ?_
 refine RegI.o (OpE.loadBox 6 9 3 b2 6 (.int .i64 p0_1) h3 (by kernel_rfl) (by kernel_rfl) rfl (by kernel_rfl) ?_)
 refine RegI.p 2 [(1, .pointer (some ⟨b2, 0, none⟩)), (8, .bool (p0_1 == 2))] ?_
 obtain ⟨j11, hJ12, h⟩ := of_let h
 have hj13 : ∀ (t8 : Bool) (w10 : World), j11 t8 = some r → Holds M0 w0 w10 [box b2 92 [.int .i64 p0_0_0, .int .u8 p0_0_1, .int .u8 p0_0_2, .int .u16 p0_0_3, .int .i64 p0_0_4, .int .i64 p0_0_5, .int .i64 p0_1, .int .i64 p0_2, .int .i64 p0_3, .int .i64 p0_4, .int .i64 p0_5], gl 3 (tab_3.flatMap en_3), gl 4 (tab_4.flatMap en_4), gl 5 (tab_5.flatMap en_5), gl 6 (tab_6.flatMap en_6), gl 7 (tab_7.flatMap en_7), gl 8 (tab_8.flatMap en_8), gl 12 (tab_12.flatMap en_12), gl 15 (tab_15.flatMap en_15), gl 16 (tab_16.flatMap en_16)] → RegI F55 5 [.c 6, .blk 0, .c 25] 14 [(1, .pointer (some ⟨b2, 0, none⟩)), (4, .bool t8)] w10 (text_shown_far_55.post M0 w0 r) := by
  intro t8 w10 h h9
  rw [hJ12] at h
  clear hJ12
  dsimp only at h
  refine RegI.d ?_
  rcases of_cond h with ⟨hc14, h⟩ | ⟨hc14, h⟩
  ·skip
   refine RunsI.f 4 true hc14 ?_
   refine RunsI.b true 7 ?_
   refine RunsI.g 2 [.c 9, .c 10, .c 15, .blk 0, .c 25] ?_
   refine RunsI.r ?_
   refine RegI.p 1 [(1, .pointer (some ⟨b2, 0, none⟩)), (18, .pointer (some ⟨b2, 8, none⟩))] ?_
   refine RegI.o (OpE.loadBox 19 0 3 b2 8 (.int .i64 p0_3) h9 (by kernel_rfl) (by kernel_rfl) rfl (by kernel_rfl) ?_)
   refine RegI.p 2 [(1, .pointer (some ⟨b2, 0, none⟩)), (21, .bool (p0_3 == 3))] ?_
   obtain ⟨j19, hJ20, h⟩ := of_let h
   have hj21 : ∀ (t16 : Bool) (w18 : World), j19 t16 = some r → Holds M0 w0 w18 [box b2 92 [.int .i64 p0_0_0, .int .u8 p0_0_1, .int .u8 p0_0_2, .int .u16 p0_0_3, .int .i64 p0_0_4, .int .i64 p0_0_5, .int .i64 p0_1, .int .i64 p0_2, .int .i64 p0_3, .int .i64 p0_4, .int .i64 p0_5], gl 3 (tab_3.flatMap en_3), gl 4 (tab_4.flatMap en_4), gl 5 (tab_5.flatMap en_5), gl 6 (tab_6.flatMap en_6), gl 7 (tab_7.flatMap en_7), gl 8 (tab_8.flatMap en_8), gl 12 (tab_12.flatMap en_12), gl 15 (tab_15.flatMap en_15), gl 16 (tab_16.flatMap en_16)] → RegI F55 9 [.c 10, .c 15, .blk 0, .c 25] 8 [(1, .pointer (some ⟨b2, 0, none⟩)), (25, .bool t16)] w18 (text_shown_far_55.post M0 w0 r) := by
    intro t16 w18 h h17
    rw [hJ20] at h
    clear hJ20
    dsimp only at h
    refine RegI.d ?_
    rcases of_cond h with ⟨hc22, h⟩ | ⟨hc22, h⟩
    ·skip
     refine RunsI.f 25 true hc22 ?_
     refine RunsI.b true 11 ?_
     refine RunsI.g 1 [.c 12, .c 13, .c 15, .blk 0, .c 25] ?_
     refine RunsI.r ?_
     refine RegI.p 1 [(26, .pointer (some ⟨b2, 7, none⟩))] ?_
     refine RegI.o (OpE.loadBox 27 0 3 b2 7 (.int .i64 p0_2) h17 (by kernel_rfl) (by kernel_rfl) rfl (by kernel_rfl) ?_)
     refine RegI.p 1 [(28, .int .i64 (IntKind.wrap .i64 (p0_2 - 4)))] ?_
     obtain ⟨hc23, h⟩ := of_cond0 h
     refine RegI.o (OpE.run 29 (by kernel_rfl) (run_idxArr (T := 123) (b := 3) (o := 0) (ix := (IntKind.wrap .i64 (p0_2 - 4))) (len := 4) (s := 1) (by kernel_rfl) (by kernel_rfl) hc23) ?_)
     refine RegI.o (OpE.loadTab 30 1 9 en_3 tab_3 0 1 (IntKind.wrap .i64 (p0_2 - 4)) (.string (rdD tab_3 (IntKind.wrap .i64 (p0_2 - 4)))) (o := 0 + (Int.toNat (IntKind.wrap .i64 (p0_2 - 4))) * 1 + 0) h17 (by kernel_rfl) rfl (fun _ => rfl) (by kernel_rfl) (by omega) hc23 (fun _ => by kernel_rfl) ?_)
     obtain ⟨hc24, h⟩ := of_cond0 h
     refine RegI.o (OpE.run 31 (by kernel_rfl) (run_cat (a := (⟨#[111, 117, 116]⟩ : ByteArray)) (b := (rdD tab_3 (IntKind.wrap .i64 (p0_2 - 4)))) (by kernel_rfl) hc24) ?_)
     refine RegI.p 1 [(2, .string ((⟨#[111, 117, 116]⟩ : ByteArray) ++ (rdD tab_3 (IntKind.wrap .i64 (p0_2 - 4)))))] ?_
     refine RegI.d ?_
     refine RunsI.t (.string ((⟨#[111, 117, 116]⟩ : ByteArray) ++ (rdD tab_3 (IntKind.wrap .i64 (p0_2 - 4))))) ?_
     obtain rfl := Option.some.inj h
     exact ⟨rfl, h17.below⟩
    ·skip
     refine RunsI.f 25 false hc22 ?_
     refine RunsI.b false 14 ?_
     refine RunsI.g 1 [.c 15, .blk 0, .c 25] ?_
     refine RunsI.g 1 [.c 16, .c 17, .blk 0, .c 25] ?_
     refine RunsI.any 11 (by kernel_rfl) (by kernel_rfl) (by kernel_rfl) (Kp ([] : List Nat) (World.drew w18)) ?_
     have h26 := h17.drew
     generalize World.drew w18 = w25 at h26 ⊢
     have hS27 := Kp.refl ([] : List Nat) w25
     refine AnyE.pure 0 32 (.pointer (some ⟨b2, 8, none⟩)) (by kernel_rfl) hS27 (fun _ => by kernel_rfl) ?_
     refine AnyE.loadBox 1 33 0 3 b2 8 (.int .i64 p0_3) [] h26 rfl (by kernel_rfl) hS27 rfl rfl (by kernel_rfl) (by kernel_rfl) ?_
     obtain ⟨hc29, h⟩ := of_cond0 h
     refine AnyE.run 2 34 (.pointer (some ⟨4, 0 + (Int.toNat p0_3) * 1, none⟩)) (by kernel_rfl) hS27 (fun _ hk => run_idxArr (T := 123) (b := 4) (o := 0) (ix := p0_3) (len := 4) (s := 1) (by kernel_rfl) (by kernel_rfl) hc29) ?_
     refine AnyE.loadTab 3 35 2 9 en_4 tab_4 0 1 p0_3 (.string (rdD tab_4 p0_3)) [] (o := 0 + (Int.toNat p0_3) * 1 + 0) h26 rfl (by kernel_rfl) hS27 rfl rfl (fun _ => rfl) (by kernel_rfl) (by omega) hc29 (fun _ => by kernel_rfl) ?_
     refine AnyE.pure 4 36 (.pointer (some ⟨b2, 7, none⟩)) (by kernel_rfl) hS27 (fun _ => by kernel_rfl) ?_
     refine AnyE.loadBox 5 37 0 3 b2 7 (.int .i64 p0_2) [] h26 rfl (by kernel_rfl) hS27 rfl rfl (by kernel_rfl) (by kernel_rfl) ?_
     refine AnyE.pure 6 38 (.int .i64 (IntKind.wrap .i64 (p0_2 - 4))) (by kernel_rfl) hS27 (fun _ => by kernel_rfl) ?_
     obtain ⟨hc30, h⟩ := of_cond0 h
     refine AnyE.run 7 39 (.pointer (some ⟨3, 0 + (Int.toNat (IntKind.wrap .i64 (p0_2 - 4))) * 1, none⟩)) (by kernel_rfl) hS27 (fun _ hk => run_idxArr (T := 123) (b := 3) (o := 0) (ix := (IntKind.wrap .i64 (p0_2 - 4))) (len := 4) (s := 1) (by kernel_rfl) (by kernel_rfl) hc30) ?_
     refine AnyE.loadTab 8 40 1 9 en_3 tab_3 0 1 (IntKind.wrap .i64 (p0_2 - 4)) (.string (rdD tab_3 (IntKind.wrap .i64 (p0_2 - 4)))) [] (o := 0 + (Int.toNat (IntKind.wrap .i64 (p0_2 - 4))) * 1 + 0) h26 rfl (by kernel_rfl) hS27 rfl rfl (fun _ => rfl) (by kernel_rfl) (by omega) hc30 (fun _ => by kernel_rfl) ?_
     obtain ⟨hc31, h⟩ := of_cond0 h
     refine AnyE.run 9 41 (.string ((rdD tab_4 p0_3) ++ (rdD tab_3 (IntKind.wrap .i64 (p0_2 - 4))))) (by kernel_rfl) hS27 (fun _ hk => run_cat (a := (rdD tab_4 p0_3)) (b := (rdD tab_3 (IntKind.wrap .i64 (p0_2 - 4)))) (by kernel_rfl) hc31) ?_
     refine AnyE.pure 10 2 (.string ((rdD tab_4 p0_3) ++ (rdD tab_3 (IntKind.wrap .i64 (p0_2 - 4))))) (by kernel_rfl) hS27 (fun _ => by kernel_rfl) ?_
     refine AnyE.done (by kernel_rfl) (fun w32 hu33 => ?_)
     have h34 := h26.call hu33
     refine RunsI.l [2] [(2, .string ((rdD tab_4 p0_3) ++ (rdD tab_3 (IntKind.wrap .i64 (p0_2 - 4)))))] ?_
     refine RunsI.t (.string ((rdD tab_4 p0_3) ++ (rdD tab_3 (IntKind.wrap .i64 (p0_2 - 4))))) ?_
     obtain rfl := Option.some.inj h
     exact ⟨rfl, h34.below⟩
   clear hJ20
   rcases of_cond h with ⟨hc15, h⟩ | ⟨hc15, h⟩
   ·skip
    refine RegI.f 21 true hc15 ?_
    refine RegI.p 1 [(1, .pointer (some ⟨b2, 0, none⟩)), (21, .bool true), (22, .pointer (some ⟨b2, 7, none⟩))] ?_
    refine RegI.o (OpE.loadBox 23 0 3 b2 7 (.int .i64 p0_2) h9 (by kernel_rfl) (by kernel_rfl) rfl (by kernel_rfl) ?_)
    refine RegI.p 2 [(1, .pointer (some ⟨b2, 0, none⟩)), (25, .bool (decide (p0_2 < 6)))] ?_
    refine RegI.l [1, 25] [(1, .pointer (some ⟨b2, 0, none⟩)), (25, .bool (decide (p0_2 < 6)))] ?_
    exact hj21 (decide (p0_2 < 6)) w10 h (h9.pick [0, 1, 2, 3, 4, 5, 6, 7, 8, 9] (by decide))
   ·skip
    refine RegI.f 21 false hc15 ?_
    refine RegI.p 4 [(1, .pointer (some ⟨b2, 0, none⟩)), (25, .bool false)] ?_
    refine RegI.l [1, 25] [(1, .pointer (some ⟨b2, 0, none⟩)), (25, .bool false)] ?_
    exact hj21 false w10 h (h9.pick [0, 1, 2, 3, 4, 5, 6, 7, 8, 9] (by decide))
  ·skip
   refine RunsI.f 4 false hc14 ?_
   refine RunsI.b false 18 ?_
   refine RunsI.g 1 [.c 19, .c 20, .blk 0, .c 25] ?_
   refine RunsI.r ?_
   refine RegI.p 1 [(1, .pointer (some ⟨b2, 0, none⟩)), (43, .pointer (some ⟨b2, 6, none⟩))] ?_
   refine RegI.o (OpE.loadBox 44 0 3 b2 6 (.int .i64 p0_1) h9 (by kernel_rfl) (by kernel_rfl) rfl (by kernel_rfl) ?_)
   refine RegI.p 2 [(1, .pointer (some ⟨b2, 0, none⟩)), (42, .bool (p0_1 != 1))] ?_
   refine RegI.d ?_
   rcases of_cond h with ⟨hc35, h⟩ | ⟨hc35, h⟩
   ·skip
    refine RunsI.f 42 true hc35 ?_
    refine RunsI.b true 21 ?_
    refine RunsI.g 1 [.c 22, .c 23, .blk 0, .c 25] ?_
    refine RunsI.r ?_
    refine RegI.p 1 [(2, .string (⟨#[110, 111, 112, 42]⟩ : ByteArray))] ?_
    refine RegI.d ?_
    refine RunsI.t (.string (⟨#[110, 111, 112, 42]⟩ : ByteArray)) ?_
    obtain rfl := Option.some.inj h
    exact ⟨rfl, h9.below⟩
   ·skip
    refine RunsI.f 42 false hc35 ?_
    refine RunsI.b false 24 ?_
    refine RunsI.g 1 [.blk 0, .c 25] ?_
    refine RunsI.g 2 [.c 26, .c 27] ?_
    refine RunsI.r ?_
    refine RegI.p 1 [(1, .pointer (some ⟨b2, 0, none⟩)), (46, .pointer (some ⟨b2, 7, none⟩))] ?_
    refine RegI.o (OpE.loadBox 47 0 3 b2 7 (.int .i64 p0_2) h9 (by kernel_rfl) (by kernel_rfl) rfl (by kernel_rfl) ?_)
    obtain ⟨hc36, h⟩ := of_cond0 h
    refine RegI.o (OpE.run 48 (by kernel_rfl) (run_idxArr (T := 122) (b := 5) (o := 0) (ix := p0_2) (len := 8) (s := 1) (by kernel_rfl) (by kernel_rfl) hc36) ?_)
    refine RegI.o (OpE.loadTab 49 3 9 en_5 tab_5 0 1 p0_2 (.string (rdD tab_5 p0_2)) (o := 0 + (Int.toNat p0_2) * 1 + 0) h9 (by kernel_rfl) rfl (fun _ => rfl) (by kernel_rfl) (by omega) hc36 (fun _ => by kernel_rfl) ?_)
    refine RegI.p 1 [(1, .pointer (some ⟨b2, 0, none⟩)), (3, .string (rdD tab_5 p0_2))] ?_
    refine RegI.d ?_
    refine RunsI.g 2 [.c 29, .c 30, .c 102] ?_
    refine RunsI.r ?_
    refine RegI.p 1 [(1, .pointer (some ⟨b2, 0, none⟩)), (3, .string (rdD tab_5 p0_2)), (50, .pointer (some ⟨b2, 8, none⟩))] ?_
    refine RegI.o (OpE.loadBox 51 0 3 b2 8 (.int .i64 p0_3) h9 (by kernel_rfl) (by kernel_rfl) rfl (by kernel_rfl) ?_)
    refine RegI.d ?_
    refine RunsI.g 2 [.c 32, .c 33, .blk 1, .c 102] ?_
    refine RunsI.r ?_
    refine RegI.p 2 [(1, .pointer (some ⟨b2, 0, none⟩)), (3, .string (rdD tab_5 p0_2)), (51, .int .i64 p0_3), (52, .bool (p0_3 == 0))] ?_
    refine RegI.d ?_
    rcases of_cond h with ⟨hc37, h⟩ | ⟨hc37, h⟩
    ·skip
     refine RunsI.f 52 true hc37 ?_
     refine RunsI.b true 34 ?_
     refine RunsI.g 2 [.c 36, .c 37, .c 40, .blk 1, .c 102] ?_
     refine RunsI.r ?_
     refine RegI.p 1 [(3, .string (rdD tab_5 p0_2)), (54, .pointer (some ⟨b2, 7, none⟩))] ?_
     refine RegI.o (OpE.loadBox 55 0 3 b2 7 (.int .i64 p0_2) h9 (by kernel_rfl) (by kernel_rfl) rfl (by kernel_rfl) ?_)
     refine RegI.p 1 [(3, .string (rdD tab_5 p0_2)), (56, .bool (p0_2 == 6))] ?_
     refine RegI.d ?_
     rcases of_cond h with ⟨hc38, h⟩ | ⟨hc38, h⟩
     ·skip
      refine RunsI.f 56 true hc38 ?_
      refine RunsI.b true 38 ?_
      refine RunsI.r ?_
      refine RegI.p 1 [(3, .string (⟨#[102]⟩ : ByteArray))] ?_
      refine RegI.d ?_
      refine RunsI.g 1 [.c 41, .c 42, .blk 1, .c 102] ?_
      refine RunsI.r ?_
      refine RegI.p 1 [(57, .string (⟨#[102]⟩ : ByteArray))] ?_
      obtain ⟨hc39, h⟩ := of_cond0 h
      refine RegI.o (OpE.run 58 (by kernel_rfl) (run_cat (a := (⟨#[105, 110, 32]⟩ : ByteArray)) (b := (⟨#[102]⟩ : ByteArray)) (by kernel_rfl) hc39) ?_)
      obtain ⟨hc40, h⟩ := of_cond0 h
      refine RegI.o (OpE.run 59 (by kernel_rfl) (run_cat (a := ((⟨#[105, 110, 32]⟩ : ByteArray) ++ (⟨#[102]⟩ : ByteArray))) (b := (⟨#[44, 40, 99, 41]⟩ : ByteArray)) (by kernel_rfl) hc40) ?_)
      refine RegI.p 1 [(2, .string (((⟨#[105, 110, 32]⟩ : ByteArray) ++ (⟨#[102]⟩ : ByteArray)) ++ (⟨#[44, 40, 99, 41]⟩ : ByteArray)))] ?_
      refine RegI.d ?_
      refine RunsI.t (.string (((⟨#[105, 110, 32]⟩ : ByteArray) ++ (⟨#[102]⟩ : ByteArray)) ++ (⟨#[44, 40, 99, 41]⟩ : ByteArray))) ?_
      obtain rfl := Option.some.inj h
      exact ⟨rfl, h9.below⟩
     ·skip
      refine RunsI.f 56 false hc38 ?_
      refine RunsI.b false 39 ?_
      refine RunsI.g 1 [.c 40, .blk 1, .c 102] ?_
      refine RunsI.g 1 [.c 41, .c 42, .blk 1, .c 102] ?_
      refine RunsI.r ?_
      refine RegI.p 1 [(57, .string (rdD tab_5 p0_2))] ?_
      obtain ⟨hc41, h⟩ := of_cond0 h
      refine RegI.o (OpE.run 58 (by kernel_rfl) (run_cat (a := (⟨#[105, 110, 32]⟩ : ByteArray)) (b := (rdD tab_5 p0_2)) (by kernel_rfl) hc41) ?_)
      obtain ⟨hc42, h⟩ := of_cond0 h
      refine RegI.o (OpE.run 59 (by kernel_rfl) (run_cat (a := ((⟨#[105, 110, 32]⟩ : ByteArray) ++ (rdD tab_5 p0_2))) (b := (⟨#[44, 40, 99, 41]⟩ : ByteArray)) (by kernel_rfl) hc42) ?_)
      refine RegI.p 1 [(2, .string (((⟨#[105, 110, 32]⟩ : ByteArray) ++ (rdD tab_5 p0_2)) ++ (⟨#[44, 40, 99, 41]⟩ : ByteArray)))] ?_
      refine RegI.d ?_
      refine RunsI.t (.string (((⟨#[105, 110, 32]⟩ : ByteArray) ++ (rdD tab_5 p0_2)) ++ (⟨#[44, 40, 99, 41]⟩ : ByteArray))) ?_
      obtain rfl := Option.some.inj h
      exact ⟨rfl, h9.below⟩
    ·skip
     refine RunsI.f 52 false hc37 ?_
     refine RunsI.b false 43 ?_
     refine RunsI.g 1 [.c 44, .c 45, .blk 1, .c 102] ?_
     refine RunsI.r ?_
     refine RegI.p 2 [(1, .pointer (some ⟨b2, 0, none⟩)), (3, .string (rdD tab_5 p0_2)), (51, .int .i64 p0_3), (60, .bool (p0_3 == 1))] ?_
     refine RegI.d ?_
     rcases of_cond h with ⟨hc43, h⟩ | ⟨hc43, h⟩
     ·skip
      refine RunsI.f 60 true hc43 ?_
      refine RunsI.b true 46 ?_
      refine RunsI.g 2 [.c 48, .c 49, .c 52, .blk 1, .c 102] ?_
      refine RunsI.r ?_
      refine RegI.p 1 [(3, .string (rdD tab_5 p0_2)), (62, .pointer (some ⟨b2, 7, none⟩))] ?_
      refine RegI.o (OpE.loadBox 63 0 3 b2 7 (.int .i64 p0_2) h9 (by kernel_rfl) (by kernel_rfl) rfl (by kernel_rfl) ?_)
      refine RegI.p 1 [(3, .string (rdD tab_5 p0_2)), (64, .bool (p0_2 == 6))] ?_
      refine RegI.d ?_
      rcases of_cond h with ⟨hc44, h⟩ | ⟨hc44, h⟩
      ·skip
       refine RunsI.f 64 true hc44 ?_
       refine RunsI.b true 50 ?_
       refine RunsI.r ?_
       refine RegI.p 1 [(3, .string (⟨#[48]⟩ : ByteArray))] ?_
       refine RegI.d ?_
       refine RunsI.g 1 [.c 53, .c 54, .blk 1, .c 102] ?_
       refine RunsI.r ?_
       refine RegI.p 1 [(65, .string (⟨#[48]⟩ : ByteArray))] ?_
       obtain ⟨hc45, h⟩ := of_cond0 h
       refine RegI.o (OpE.run 66 (by kernel_rfl) (run_cat (a := (⟨#[111, 117, 116, 32, 40, 99, 41, 44]⟩ : ByteArray)) (b := (⟨#[48]⟩ : ByteArray)) (by kernel_rfl) hc45) ?_)
       refine RegI.p 1 [(2, .string ((⟨#[111, 117, 116, 32, 40, 99, 41, 44]⟩ : ByteArray) ++ (⟨#[48]⟩ : ByteArray)))] ?_
       refine RegI.d ?_
       refine RunsI.t (.string ((⟨#[111, 117, 116, 32, 40, 99, 41, 44]⟩ : ByteArray) ++ (⟨#[48]⟩ : ByteArray))) ?_
       obtain rfl := Option.some.inj h
       exact ⟨rfl, h9.below⟩
      ·skip
       refine RunsI.f 64 false hc44 ?_
       refine RunsI.b false 51 ?_
       refine RunsI.g 1 [.c 52, .blk 1, .c 102] ?_
       refine RunsI.g 1 [.c 53, .c 54, .blk 1, .c 102] ?_
       refine RunsI.r ?_
       refine RegI.p 1 [(65, .string (rdD tab_5 p0_2))] ?_
       obtain ⟨hc46, h⟩ := of_cond0 h
       refine RegI.o (OpE.run 66 (by kernel_rfl) (run_cat (a := (⟨#[111, 117, 116, 32, 40, 99, 41, 44]⟩ : ByteArray)) (b := (rdD tab_5 p0_2)) (by kernel_rfl) hc46) ?_)
       refine RegI.p 1 [(2, .string ((⟨#[111, 117, 116, 32, 40, 99, 41, 44]⟩ : ByteArray) ++ (rdD tab_5 p0_2)))] ?_
       refine RegI.d ?_
       refine RunsI.t (.string ((⟨#[111, 117, 116, 32, 40, 99, 41, 44]⟩ : ByteArray) ++ (rdD tab_5 p0_2))) ?_
       obtain rfl := Option.some.inj h
       exact ⟨rfl, h9.below⟩
     ·skip
      refine RunsI.f 60 false hc43 ?_
      refine RunsI.b false 55 ?_
      refine RunsI.g 1 [.c 56, .c 57, .blk 1, .c 102] ?_
      refine RunsI.r ?_
      refine RegI.p 2 [(1, .pointer (some ⟨b2, 0, none⟩)), (51, .int .i64 p0_3), (67, .bool (p0_3 == 2))] ?_
      refine RegI.d ?_
      rcases of_cond h with ⟨hc47, h⟩ | ⟨hc47, h⟩
      ·skip
       refine RunsI.f 67 true hc47 ?_
       refine RunsI.b true 58 ?_
       refine RunsI.g 1 [.c 59, .c 60, .blk 1, .c 102] ?_
       refine RunsI.any 10 (by kernel_rfl) (by kernel_rfl) (by kernel_rfl) (Kp ([] : List Nat) (World.drew w10)) ?_
       have h49 := h9.drew
       generalize World.drew w10 = w48 at h49 ⊢
       have hS50 := Kp.refl ([] : List Nat) w48
       refine AnyE.pure 0 69 (.agg #[.string (⟨#[115, 98, 99, 32, 104, 108, 44]⟩ : ByteArray), .string (⟨#[97, 100, 99, 32, 104, 108, 44]⟩ : ByteArray)]) (by kernel_rfl) hS50 (fun _ => by kernel_rfl) ?_
       refine AnyE.pure 1 70 (.pointer (some ⟨b2, 10, none⟩)) (by kernel_rfl) hS50 (fun _ => by kernel_rfl) ?_
       refine AnyE.loadBox 2 71 0 3 b2 10 (.int .i64 p0_5) [] h49 rfl (by kernel_rfl) hS50 rfl rfl (by kernel_rfl) (by kernel_rfl) ?_
       obtain ⟨hc52, h⟩ := of_cond0 h
       refine AnyE.run 3 72 (.string (rdD ([(⟨#[115, 98, 99, 32, 104, 108, 44]⟩ : ByteArray), (⟨#[97, 100, 99, 32, 104, 108, 44]⟩ : ByteArray)] : List ByteArray) p0_5)) (by kernel_rfl) hS50 (fun _ hk => run_indexTab (T0 := 125) (en := (fun (x : ByteArray) => ([.string x] : List Value))) (tab := ([(⟨#[115, 98, 99, 32, 104, 108, 44]⟩ : ByteArray), (⟨#[97, 100, 99, 32, 104, 108, 44]⟩ : ByteArray)] : List ByteArray)) (len := 2) (sz := 1) (j := p0_5) (v := .string (rdD ([(⟨#[115, 98, 99, 32, 104, 108, 44]⟩ : ByteArray), (⟨#[97, 100, 99, 32, 104, 108, 44]⟩ : ByteArray)] : List ByteArray) p0_5)) (fun _ => rfl) (by kernel_rfl) (by kernel_rfl) rfl hc52 (fun _ => by kernel_rfl)) ?_
       refine AnyE.pure 4 73 (.pointer (some ⟨b2, 9, none⟩)) (by kernel_rfl) hS50 (fun _ => by kernel_rfl) ?_
       refine AnyE.loadBox 5 74 0 3 b2 9 (.int .i64 p0_4) [] h49 rfl (by kernel_rfl) hS50 rfl rfl (by kernel_rfl) (by kernel_rfl) ?_
       obtain ⟨hc53, h⟩ := of_cond0 h
       refine AnyE.run 6 75 (.pointer (some ⟨6, 0 + (Int.toNat p0_4) * 1, none⟩)) (by kernel_rfl) hS50 (fun _ hk => run_idxArr (T := 126) (b := 6) (o := 0) (ix := p0_4) (len := 5) (s := 1) (by kernel_rfl) (by kernel_rfl) hc53) ?_
       refine AnyE.loadTab 7 76 4 9 en_6 tab_6 0 1 p0_4 (.string (rdD tab_6 p0_4)) [] (o := 0 + (Int.toNat p0_4) * 1 + 0) h49 rfl (by kernel_rfl) hS50 rfl rfl (fun _ => rfl) (by kernel_rfl) (by omega) hc53 (fun _ => by kernel_rfl) ?_
       obtain ⟨hc54, h⟩ := of_cond0 h
       refine AnyE.run 8 77 (.string ((rdD ([(⟨#[115, 98, 99, 32, 104, 108, 44]⟩ : ByteArray), (⟨#[97, 100, 99, 32, 104, 108, 44]⟩ : ByteArray)] : List ByteArray) p0_5) ++ (rdD tab_6 p0_4))) (by kernel_rfl) hS50 (fun _ hk => run_cat (a := (rdD ([(⟨#[115, 98, 99, 32, 104, 108, 44]⟩ : ByteArray), (⟨#[97, 100, 99, 32, 104, 108, 44]⟩ : ByteArray)] : List ByteArray) p0_5)) (b := (rdD tab_6 p0_4)) (by kernel_rfl) hc54) ?_
       refine AnyE.pure 9 2 (.string ((rdD ([(⟨#[115, 98, 99, 32, 104, 108, 44]⟩ : ByteArray), (⟨#[97, 100, 99, 32, 104, 108, 44]⟩ : ByteArray)] : List ByteArray) p0_5) ++ (rdD tab_6 p0_4))) (by kernel_rfl) hS50 (fun _ => by kernel_rfl) ?_
       refine AnyE.done (by kernel_rfl) (fun w55 hu56 => ?_)
       have h57 := h49.call hu56
       refine RunsI.l [2] [(2, .string ((rdD ([(⟨#[115, 98, 99, 32, 104, 108, 44]⟩ : ByteArray), (⟨#[97, 100, 99, 32, 104, 108, 44]⟩ : ByteArray)] : List ByteArray) p0_5) ++ (rdD tab_6 p0_4)))] ?_
       refine RunsI.t (.string ((rdD ([(⟨#[115, 98, 99, 32, 104, 108, 44]⟩ : ByteArray), (⟨#[97, 100, 99, 32, 104, 108, 44]⟩ : ByteArray)] : List ByteArray) p0_5) ++ (rdD tab_6 p0_4))) ?_
       obtain rfl := Option.some.inj h
       exact ⟨rfl, h57.below⟩
      ·skip
       refine RunsI.f 67 false hc47 ?_
       refine RunsI.b false 61 ?_
       refine RunsI.g 1 [.c 62, .c 63, .blk 1, .c 102] ?_
       refine RunsI.r ?_
       refine RegI.p 2 [(1, .pointer (some ⟨b2, 0, none⟩)), (51, .int .i64 p0_3), (78, .bool (p0_3 == 3))] ?_
       refine RegI.d ?_
       rcases of_cond h with ⟨hc58, h⟩ | ⟨hc58, h⟩
       ·skip
        refine RunsI.f 78 true hc58 ?_
        refine RunsI.b true 64 ?_
        refine RunsI.g 2 [.c 66, .c 67, .c 72, .blk 1, .c 102] ?_
        refine RunsI.r ?_
        refine RegI.p 1 [(1, .pointer (some ⟨b2, 0, none⟩)), (80, .pointer (some ⟨b2, 10, none⟩))] ?_
        refine RegI.o (OpE.loadBox 81 0 3 b2 10 (.int .i64 p0_5) h9 (by kernel_rfl) (by kernel_rfl) rfl (by kernel_rfl) ?_)
        refine RegI.p 1 [(1, .pointer (some ⟨b2, 0, none⟩)), (82, .bool (p0_5 == 1))] ?_
        refine RegI.d ?_
        rcases of_cond h with ⟨hc59, h⟩ | ⟨hc59, h⟩
        ·skip
         refine RunsI.f 82 true hc59 ?_
         refine RunsI.b true 68 ?_
         refine RunsI.g 1 [.c 69, .c 70, .c 72, .blk 1, .c 102] ?_
         refine RunsI.any 11 (by kernel_rfl) (by kernel_rfl) (by kernel_rfl) (Kp ([] : List Nat) (World.drew w10)) ?_
         have h61 := h9.drew
         generalize World.drew w10 = w60 at h61 ⊢
         have hS62 := Kp.refl ([] : List Nat) w60
         refine AnyE.pure 0 83 (.pointer (some ⟨b2, 9, none⟩)) (by kernel_rfl) hS62 (fun _ => by kernel_rfl) ?_
         refine AnyE.loadBox 1 84 0 3 b2 9 (.int .i64 p0_4) [] h61 rfl (by kernel_rfl) hS62 rfl rfl (by kernel_rfl) (by kernel_rfl) ?_
         obtain ⟨hc64, h⟩ := of_cond0 h
         refine AnyE.run 2 85 (.pointer (some ⟨6, 0 + (Int.toNat p0_4) * 1, none⟩)) (by kernel_rfl) hS62 (fun _ hk => run_idxArr (T := 126) (b := 6) (o := 0) (ix := p0_4) (len := 5) (s := 1) (by kernel_rfl) (by kernel_rfl) hc64) ?_
         refine AnyE.loadTab 3 86 4 9 en_6 tab_6 0 1 p0_4 (.string (rdD tab_6 p0_4)) [] (o := 0 + (Int.toNat p0_4) * 1 + 0) h61 rfl (by kernel_rfl) hS62 rfl rfl (fun _ => rfl) (by kernel_rfl) (by omega) hc64 (fun _ => by kernel_rfl) ?_
         obtain ⟨hc65, h⟩ := of_cond0 h
         refine AnyE.run 4 87 (.string ((⟨#[108, 100, 32]⟩ : ByteArray) ++ (rdD tab_6 p0_4))) (by kernel_rfl) hS62 (fun _ hk => run_cat (a := (⟨#[108, 100, 32]⟩ : ByteArray)) (b := (rdD tab_6 p0_4)) (by kernel_rfl) hc65) ?_
         obtain ⟨hc66, h⟩ := of_cond0 h
         refine AnyE.run 5 88 (.string (((⟨#[108, 100, 32]⟩ : ByteArray) ++ (rdD tab_6 p0_4)) ++ (⟨#[44, 40]⟩ : ByteArray))) (by kernel_rfl) hS62 (fun _ hk => run_cat (a := ((⟨#[108, 100, 32]⟩ : ByteArray) ++ (rdD tab_6 p0_4))) (b := (⟨#[44, 40]⟩ : ByteArray)) (by kernel_rfl) hc66) ?_
         refine AnyE.loadBox 6 89 0 92 b2 0 (.agg #[.int .i64 p0_0_0, .int .u8 p0_0_1, .int .u8 p0_0_2, .int .u16 p0_0_3, .int .i64 p0_0_4, .int .i64 p0_0_5, .int .i64 p0_1, .int .i64 p0_2, .int .i64 p0_3, .int .i64 p0_4, .int .i64 p0_5]) [] h61 rfl (by kernel_rfl) hS62 rfl rfl (by kernel_rfl) (by kernel_rfl) ?_
         obtain ⟨t68, hg67, h⟩ := of_bind h
         refine AnyE.call 7 90 (.string t68) 89 #[.agg #[.int .i64 p0_0_0, .int .u8 p0_0_1, .int .u8 p0_0_2, .int .u16 p0_0_3, .int .i64 p0_0_4, .int .i64 p0_0_5, .int .i64 p0_1, .int .i64 p0_2, .int .i64 p0_3, .int .i64 p0_4, .int .i64 p0_5]] (by kernel_rfl) hS62 (fun _ => by kernel_rfl) (fun w hk => text_shown_nn_89_ok K (fun _ => False) w p0_0_0 p0_0_1 p0_0_2 p0_0_3 p0_0_4 p0_0_5 p0_1 p0_2 p0_3 p0_4 p0_5 (fun _ hf => hf.elim) ⟨(h61.atI [] rfl hk 7 rfl rfl).1, fun hf => hf.elim, (h61.atI [] rfl hk 7 rfl rfl).2.2⟩ ⟨(h61.atI [] rfl hk 8 rfl rfl).1, fun hf => hf.elim, (h61.atI [] rfl hk 8 rfl rfl).2.2⟩ ⟨(h61.atI [] rfl hk 9 rfl rfl).1, fun hf => hf.elim, (h61.atI [] rfl hk 9 rfl rfl).2.2⟩ hg67) ?_
         obtain ⟨hc69, h⟩ := of_cond0 h
         refine AnyE.run 8 91 (.string ((((⟨#[108, 100, 32]⟩ : ByteArray) ++ (rdD tab_6 p0_4)) ++ (⟨#[44, 40]⟩ : ByteArray)) ++ t68)) (by kernel_rfl) hS62 (fun _ hk => run_cat (a := (((⟨#[108, 100, 32]⟩ : ByteArray) ++ (rdD tab_6 p0_4)) ++ (⟨#[44, 40]⟩ : ByteArray))) (b := t68) (by kernel_rfl) hc69) ?_
         obtain ⟨hc70, h⟩ := of_cond0 h
         refine AnyE.run 9 92 (.string (((((⟨#[108, 100, 32]⟩ : ByteArray) ++ (rdD tab_6 p0_4)) ++ (⟨#[44, 40]⟩ : ByteArray)) ++ t68) ++ (⟨#[41]⟩ : ByteArray))) (by kernel_rfl) hS62 (fun _ hk => run_cat (a := ((((⟨#[108, 100, 32]⟩ : ByteArray) ++ (rdD tab_6 p0_4)) ++ (⟨#[44, 40]⟩ : ByteArray)) ++ t68)) (b := (⟨#[41]⟩ : ByteArray)) (by kernel_rfl) hc70) ?_
         refine AnyE.pure 10 2 (.string (((((⟨#[108, 100, 32]⟩ : ByteArray) ++ (rdD tab_6 p0_4)) ++ (⟨#[44, 40]⟩ : ByteArray)) ++ t68) ++ (⟨#[41]⟩ : ByteArray))) (by kernel_rfl) hS62 (fun _ => by kernel_rfl) ?_
         refine AnyE.done (by kernel_rfl) (fun w71 hu72 => ?_)
         have h73 := h61.call hu72
         refine RunsI.l [2] [(2, .string (((((⟨#[108, 100, 32]⟩ : ByteArray) ++ (rdD tab_6 p0_4)) ++ (⟨#[44, 40]⟩ : ByteArray)) ++ t68) ++ (⟨#[41]⟩ : ByteArray)))] ?_
         refine RunsI.t (.string (((((⟨#[108, 100, 32]⟩ : ByteArray) ++ (rdD tab_6 p0_4)) ++ (⟨#[44, 40]⟩ : ByteArray)) ++ t68) ++ (⟨#[41]⟩ : ByteArray))) ?_
         obtain rfl := Option.some.inj h
         exact ⟨rfl, h73.below⟩
        ·skip
         refine RunsI.f 82 false hc59 ?_
         refine RunsI.b false 71 ?_
         refine RunsI.g 1 [.c 72, .blk 1, .c 102] ?_
         refine RunsI.g 1 [.c 73, .c 74, .blk 1, .c 102] ?_
         refine RunsI.any 10 (by kernel_rfl) (by kernel_rfl) (by kernel_rfl) (Kp ([] : List Nat) (World.drew w10)) ?_
         have h75 := h9.drew
         generalize World.drew w10 = w74 at h75 ⊢
         have hS76 := Kp.refl ([] : List Nat) w74
         refine AnyE.loadBox 0 93 0 92 b2 0 (.agg #[.int .i64 p0_0_0, .int .u8 p0_0_1, .int .u8 p0_0_2, .int .u16 p0_0_3, .int .i64 p0_0_4, .int .i64 p0_0_5, .int .i64 p0_1, .int .i64 p0_2, .int .i64 p0_3, .int .i64 p0_4, .int .i64 p0_5]) [] h75 rfl (by kernel_rfl) hS76 rfl rfl (by kernel_rfl) (by kernel_rfl) ?_
         obtain ⟨t79, hg78, h⟩ := of_bind h
         refine AnyE.call 1 94 (.string t79) 89 #[.agg #[.int .i64 p0_0_0, .int .u8 p0_0_1, .int .u8 p0_0_2, .int .u16 p0_0_3, .int .i64 p0_0_4, .int .i64 p0_0_5, .int .i64 p0_1, .int .i64 p0_2, .int .i64 p0_3, .int .i64 p0_4, .int .i64 p0_5]] (by kernel_rfl) hS76 (fun _ => by kernel_rfl) (fun w hk => text_shown_nn_89_ok K (fun _ => False) w p0_0_0 p0_0_1 p0_0_2 p0_0_3 p0_0_4 p0_0_5 p0_1 p0_2 p0_3 p0_4 p0_5 (fun _ hf => hf.elim) ⟨(h75.atI [] rfl hk 7 rfl rfl).1, fun hf => hf.elim, (h75.atI [] rfl hk 7 rfl rfl).2.2⟩ ⟨(h75.atI [] rfl hk 8 rfl rfl).1, fun hf => hf.elim, (h75.atI [] rfl hk 8 rfl rfl).2.2⟩ ⟨(h75.atI [] rfl hk 9 rfl rfl).1, fun hf => hf.elim, (h75.atI [] rfl hk 9 rfl rfl).2.2⟩ hg78) ?_
         obtain ⟨hc80, h⟩ := of_cond0 h
         refine AnyE.run 2 95 (.string ((⟨#[108, 100, 32, 40]⟩ : ByteArray) ++ t79)) (by kernel_rfl) hS76 (fun _ hk => run_cat (a := (⟨#[108, 100, 32, 40]⟩ : ByteArray)) (b := t79) (by kernel_rfl) hc80) ?_
         obtain ⟨hc81, h⟩ := of_cond0 h
         refine AnyE.run 3 96 (.string (((⟨#[108, 100, 32, 40]⟩ : ByteArray) ++ t79) ++ (⟨#[41, 44]⟩ : ByteArray))) (by kernel_rfl) hS76 (fun _ hk => run_cat (a := ((⟨#[108, 100, 32, 40]⟩ : ByteArray) ++ t79)) (b := (⟨#[41, 44]⟩ : ByteArray)) (by kernel_rfl) hc81) ?_
         refine AnyE.pure 4 97 (.pointer (some ⟨b2, 9, none⟩)) (by kernel_rfl) hS76 (fun _ => by kernel_rfl) ?_
         refine AnyE.loadBox 5 98 0 3 b2 9 (.int .i64 p0_4) [] h75 rfl (by kernel_rfl) hS76 rfl rfl (by kernel_rfl) (by kernel_rfl) ?_
         obtain ⟨hc82, h⟩ := of_cond0 h
         refine AnyE.run 6 99 (.pointer (some ⟨6, 0 + (Int.toNat p0_4) * 1, none⟩)) (by kernel_rfl) hS76 (fun _ hk => run_idxArr (T := 126) (b := 6) (o := 0) (ix := p0_4) (len := 5) (s := 1) (by kernel_rfl) (by kernel_rfl) hc82) ?_
         refine AnyE.loadTab 7 100 4 9 en_6 tab_6 0 1 p0_4 (.string (rdD tab_6 p0_4)) [] (o := 0 + (Int.toNat p0_4) * 1 + 0) h75 rfl (by kernel_rfl) hS76 rfl rfl (fun _ => rfl) (by kernel_rfl) (by omega) hc82 (fun _ => by kernel_rfl) ?_
         obtain ⟨hc83, h⟩ := of_cond0 h
         refine AnyE.run 8 101 (.string ((((⟨#[108, 100, 32, 40]⟩ : ByteArray) ++ t79) ++ (⟨#[41, 44]⟩ : ByteArray)) ++ (rdD tab_6 p0_4))) (by kernel_rfl) hS76 (fun _ hk => run_cat (a := (((⟨#[108, 100, 32, 40]⟩ : ByteArray) ++ t79) ++ (⟨#[41, 44]⟩ : ByteArray))) (b := (rdD tab_6 p0_4)) (by kernel_rfl) hc83) ?_
         refine AnyE.pure 9 2 (.string ((((⟨#[108, 100, 32, 40]⟩ : ByteArray) ++ t79) ++ (⟨#[41, 44]⟩ : ByteArray)) ++ (rdD tab_6 p0_4))) (by kernel_rfl) hS76 (fun _ => by kernel_rfl) ?_
         refine AnyE.done (by kernel_rfl) (fun w84 hu85 => ?_)
         have h86 := h75.call hu85
         refine RunsI.l [2] [(2, .string ((((⟨#[108, 100, 32, 40]⟩ : ByteArray) ++ t79) ++ (⟨#[41, 44]⟩ : ByteArray)) ++ (rdD tab_6 p0_4)))] ?_
         refine RunsI.t (.string ((((⟨#[108, 100, 32, 40]⟩ : ByteArray) ++ t79) ++ (⟨#[41, 44]⟩ : ByteArray)) ++ (rdD tab_6 p0_4))) ?_
         obtain rfl := Option.some.inj h
         exact ⟨rfl, h86.below⟩
       ·skip
        refine RunsI.f 78 false hc58 ?_
        refine RunsI.b false 75 ?_
        refine RunsI.g 1 [.c 76, .c 77, .blk 1, .c 102] ?_
        refine RunsI.r ?_
        refine RegI.p 2 [(1, .pointer (some ⟨b2, 0, none⟩)), (51, .int .i64 p0_3), (102, .bool (p0_3 == 4))] ?_
        refine RegI.d ?_
        rcases of_cond h with ⟨hc87, h⟩ | ⟨hc87, h⟩
        ·skip
         refine RunsI.f 102 true hc87 ?_
         refine RunsI.b true 78 ?_
         refine RunsI.g 1 [.c 79, .c 80, .blk 1, .c 102] ?_
         refine RunsI.r ?_
         refine RegI.p 1 [(2, .string (⟨#[110, 101, 103]⟩ : ByteArray))] ?_
         refine RegI.d ?_
         refine RunsI.t (.string (⟨#[110, 101, 103]⟩ : ByteArray)) ?_
         obtain rfl := Option.some.inj h
         exact ⟨rfl, h9.below⟩
        ·skip
         refine RunsI.f 102 false hc87 ?_
         refine RunsI.b false 81 ?_
         refine RunsI.g 1 [.c 82, .c 83, .blk 1, .c 102] ?_
         refine RunsI.r ?_
         refine RegI.p 2 [(1, .pointer (some ⟨b2, 0, none⟩)), (51, .int .i64 p0_3), (104, .bool (p0_3 == 5))] ?_
         refine RegI.d ?_
         rcases of_cond h with ⟨hc88, h⟩ | ⟨hc88, h⟩
         ·skip
          refine RunsI.f 104 true hc88 ?_
          refine RunsI.b true 84 ?_
          refine RunsI.g 2 [.c 86, .c 87, .c 92, .blk 1, .c 102] ?_
          refine RunsI.r ?_
          refine RegI.p 1 [(106, .pointer (some ⟨b2, 7, none⟩))] ?_
          refine RegI.o (OpE.loadBox 107 0 3 b2 7 (.int .i64 p0_2) h9 (by kernel_rfl) (by kernel_rfl) rfl (by kernel_rfl) ?_)
          refine RegI.p 1 [(108, .bool (p0_2 == 1))] ?_
          refine RegI.d ?_
          rcases of_cond h with ⟨hc89, h⟩ | ⟨hc89, h⟩
          ·skip
           refine RunsI.f 108 true hc89 ?_
           refine RunsI.b true 88 ?_
           refine RunsI.g 1 [.c 89, .c 90, .c 92, .blk 1, .c 102] ?_
           refine RunsI.r ?_
           refine RegI.p 1 [(2, .string (⟨#[114, 101, 116, 105]⟩ : ByteArray))] ?_
           refine RegI.d ?_
           refine RunsI.t (.string (⟨#[114, 101, 116, 105]⟩ : ByteArray)) ?_
           obtain rfl := Option.some.inj h
           exact ⟨rfl, h9.below⟩
          ·skip
           refine RunsI.f 108 false hc89 ?_
           refine RunsI.b false 91 ?_
           refine RunsI.g 1 [.c 92, .blk 1, .c 102] ?_
           refine RunsI.g 1 [.c 93, .c 94, .blk 1, .c 102] ?_
           refine RunsI.r ?_
           refine RegI.p 1 [(2, .string (⟨#[114, 101, 116, 110]⟩ : ByteArray))] ?_
           refine RegI.d ?_
           refine RunsI.t (.string (⟨#[114, 101, 116, 110]⟩ : ByteArray)) ?_
           obtain rfl := Option.some.inj h
           exact ⟨rfl, h9.below⟩
         ·skip
          refine RunsI.f 104 false hc88 ?_
          refine RunsI.b false 95 ?_
          refine RunsI.g 1 [.c 96, .c 97, .blk 1, .c 102] ?_
          refine RunsI.r ?_
          refine RegI.p 2 [(1, .pointer (some ⟨b2, 0, none⟩)), (109, .bool (p0_3 == 6))] ?_
          refine RegI.d ?_
          rcases of_cond h with ⟨hc90, h⟩ | ⟨hc90, h⟩
          ·skip
           refine RunsI.f 109 true hc90 ?_
           refine RunsI.b true 98 ?_
           refine RunsI.g 1 [.c 99, .c 100, .blk 1, .c 102] ?_
           refine RunsI.r ?_
           refine RegI.p 1 [(111, .pointer (some ⟨b2, 7, none⟩))] ?_
           refine RegI.o (OpE.loadBox 112 0 3 b2 7 (.int .i64 p0_2) h9 (by kernel_rfl) (by kernel_rfl) rfl (by kernel_rfl) ?_)
           refine RegI.p 1 [(113, .int .i64 (band .i64 p0_2 3))] ?_
           obtain ⟨hc91, h⟩ := of_cond0 h
           refine RegI.o (OpE.run 114 (by kernel_rfl) (run_idxArr (T := 123) (b := 7) (o := 0) (ix := (band .i64 p0_2 3)) (len := 4) (s := 1) (by kernel_rfl) (by kernel_rfl) hc91) ?_)
           refine RegI.o (OpE.loadTab 115 5 9 en_7 tab_7 0 1 (band .i64 p0_2 3) (.string (rdD tab_7 (band .i64 p0_2 3))) (o := 0 + (Int.toNat (band .i64 p0_2 3)) * 1 + 0) h9 (by kernel_rfl) rfl (fun _ => rfl) (by kernel_rfl) (by omega) hc91 (fun _ => by kernel_rfl) ?_)
           refine RegI.p 1 [(2, .string (rdD tab_7 (band .i64 p0_2 3)))] ?_
           refine RegI.d ?_
           refine RunsI.t (.string (rdD tab_7 (band .i64 p0_2 3))) ?_
           obtain rfl := Option.some.inj h
           exact ⟨rfl, h9.below⟩
          ·skip
           refine RunsI.f 109 false hc90 ?_
           refine RunsI.b false 101 ?_
           refine RunsI.g 1 [.blk 1, .c 102] ?_
           refine RunsI.g 2 [.c 103, .c 104] ?_
           refine RunsI.r ?_
           refine RegI.p 1 [(116, .pointer (some ⟨b2, 7, none⟩))] ?_
           refine RegI.o (OpE.loadBox 117 0 3 b2 7 (.int .i64 p0_2) h9 (by kernel_rfl) (by kernel_rfl) rfl (by kernel_rfl) ?_)
           refine RegI.o (OpE.run 118 (by kernel_rfl) (run_idxArr (T := 122) (b := 8) (o := 0) (ix := p0_2) (len := 8) (s := 1) (by kernel_rfl) (by kernel_rfl) hc36) ?_)
           refine RegI.o (OpE.loadTab 119 6 9 en_8 tab_8 0 1 p0_2 (.string (rdD tab_8 p0_2)) (o := 0 + (Int.toNat p0_2) * 1 + 0) h9 (by kernel_rfl) rfl (fun _ => rfl) (by kernel_rfl) (by omega) hc36 (fun _ => by kernel_rfl) ?_)
           refine RegI.p 1 [(2, .string (rdD tab_8 p0_2))] ?_
           refine RegI.d ?_
           refine RunsI.t (.string (rdD tab_8 p0_2)) ?_
           obtain rfl := Option.some.inj h
           exact ⟨rfl, h9.below⟩
 clear hJ12
 rcases of_cond h with ⟨hc6, h⟩ | ⟨hc6, h⟩
 ·skip
  refine RegI.f 8 true hc6 ?_
  refine RegI.p 1 [(1, .pointer (some ⟨b2, 0, none⟩)), (8, .bool true), (9, .pointer (some ⟨b2, 8, none⟩))] ?_
  refine RegI.o (OpE.loadBox 10 9 3 b2 8 (.int .i64 p0_3) h3 (by kernel_rfl) (by kernel_rfl) rfl (by kernel_rfl) ?_)
  refine RegI.p 3 [(1, .pointer (some ⟨b2, 0, none⟩)), (13, .bool (decide (p0_3 < 4)))] ?_
  rcases of_cond h with ⟨hc7, h⟩ | ⟨hc7, h⟩
  ·skip
   refine RegI.f 13 true hc7 ?_
   refine RegI.p 1 [(1, .pointer (some ⟨b2, 0, none⟩)), (13, .bool true), (14, .pointer (some ⟨b2, 7, none⟩))] ?_
   refine RegI.o (OpE.loadBox 15 9 3 b2 7 (.int .i64 p0_2) h3 (by kernel_rfl) (by kernel_rfl) rfl (by kernel_rfl) ?_)
   refine RegI.p 3 [(1, .pointer (some ⟨b2, 0, none⟩)), (4, .bool (decide (p0_2 > 3)))] ?_
   refine RegI.l [1, 4] [(1, .pointer (some ⟨b2, 0, none⟩)), (4, .bool (decide (p0_2 > 3)))] ?_
   exact hj13 (decide (p0_2 > 3)) w1 h (h3.pick [9, 0, 1, 2, 3, 4, 5, 6, 7, 8] (by decide))
  ·skip
   refine RegI.f 13 false hc7 ?_
   refine RegI.p 5 [(1, .pointer (some ⟨b2, 0, none⟩)), (4, .bool false)] ?_
   refine RegI.l [1, 4] [(1, .pointer (some ⟨b2, 0, none⟩)), (4, .bool false)] ?_
   exact hj13 false w1 h (h3.pick [9, 0, 1, 2, 3, 4, 5, 6, 7, 8] (by decide))
 ·skip
  refine RegI.f 8 false hc6 ?_
  refine RegI.p 10 [(1, .pointer (some ⟨b2, 0, none⟩)), (4, .bool false)] ?_
  refine RegI.l [1, 4] [(1, .pointer (some ⟨b2, 0, none⟩)), (4, .bool false)] ?_
  exact hj13 false w1 h (h3.pick [9, 0, 1, 2, 3, 4, 5, 6, 7, 8] (by decide))
end

/-! ### (charabanc/text.shown).bit (function 56) -/
section
def text_shown_bit_56.post (M0 : Nat → Prop) (w0 : World) (r : ByteArray) : Ending → World → Prop := fun e w => e = .returned (.string r) ∧ Below w0.heap.size w0 w
def text_shown_bit_56.f (K : Nat) (p0_0_0 : Int) (p0_0_1 : Int) (p0_0_2 : Int) (p0_0_3 : Int) (p0_0_4 : Int) (p0_0_5 : Int) (p0_1 : Int) (p0_2 : Int) (p0_3 : Int) (p0_4 : Int) (p0_5 : Int) : Option ByteArray := cond (inR p0_3 8) (Let (fun (t23 : ByteArray) => cond (p0_1 == 0) (cond (inR p0_2 8) (cond (mayCat (rdD tab_9 p0_2).size t23.size) (some ((rdD tab_9 p0_2) ++ t23)) none) none) (cond (inR p0_1 4) ((strconv_Itoa_93.f K p0_2).bind fun t38 => cond (mayCat (rdD tab_10 p0_1).size t38.size) (cond (mayCat ((rdD tab_10 p0_1) ++ t38).size (⟨#[44]⟩ : ByteArray).size) (cond (mayCat (((rdD tab_10 p0_1) ++ t38) ++ (⟨#[44]⟩ : ByteArray)).size t23.size) (some ((((rdD tab_10 p0_1) ++ t38) ++ (⟨#[44]⟩ : ByteArray)) ++ t23)) none) none) none) none)) (fun j26 => cond (p0_0_0 != 1) ((text_Index_49.f K p0_0_0 p0_0_2).bind fun t12 => Let (fun (t14 : Bool) => cond t14 (cond (mayCat (⟨#[44]⟩ : ByteArray).size (rdD tab_5 p0_3).size) (cond (mayCat t12.size ((⟨#[44]⟩ : ByteArray) ++ (rdD tab_5 p0_3)).size) (j26 (t12 ++ ((⟨#[44]⟩ : ByteArray) ++ (rdD tab_5 p0_3)))) none) none) (j26 t12)) (fun j17 => cond (p0_1 != 1) (j17 (p0_3 != 6)) (j17 false))) (j26 (rdD tab_5 p0_3)))) none
set_option maxRecDepth 100000 in
theorem text_shown_bit_56_ok (K : Nat) (M0 : Nat → Prop) (w0 : World) (p0_0_0 : Int) (p0_0_1 : Int) (p0_0_2 : Int) (p0_0_3 : Int) (p0_0_4 : Int) (p0_0_5 : Int) (p0_1 : Int) (p0_2 : Int) (p0_3 : Int) (p0_4 : Int) (p0_5 : Int) (ho : ∀ b, M0 b → b < w0.heap.size) (hG5 : (gl 5 (tab_5.flatMap en_5)).ok w0 M0) (hG9 : (gl 9 (tab_9.flatMap en_9)).ok w0 M0) (hG10 : (gl 10 (tab_10.flatMap en_10)).ok w0 M0) (hG12 : (gl 12 (tab_12.flatMap en_12)).ok w0 M0) {r : ByteArray} (h : text_shown_bit_56.f K p0_0_0 p0_0_1 p0_0_2 p0_0_3 p0_0_4 p0_0_5 p0_1 p0_2 p0_3 p0_4 p0_5 = some r) :
  Calls Tryd.prog 56 #[.agg #[.int .i64 p0_0_0, .int .u8 p0_0_1, .int .u8 p0_0_2, .int .u16 p0_0_3, .int .i64 p0_0_4, .int .i64 p0_0_5, .int .i64 p0_1, .int .i64 p0_2, .int .i64 p0_3, .int .i64 p0_4, .int .i64 p0_5]] w0 (text_shown_bit_56.post M0 w0 r) := by
 unfold text_shown_bit_56.f at h
 have h0 : Holds M0 w0 w0 [] := Holds.start ho
 have h0g5 := h0.add (gl 5 (tab_5.flatMap en_5)) rfl ⟨hG5.1, fun hm => hG5.2.1 (hm.elim id (fun hm => absurd hm (by simp [mines, sl, gl]))), hG5.2.2⟩
 have h0g9 := h0g5.add (gl 9 (tab_9.flatMap en_9)) rfl ⟨hG9.1, fun hm => hG9.2.1 (hm.elim id (fun hm => absurd hm (by simp [mines, sl, gl]))), hG9.2.2⟩
 have h0g10 := h0g9.add (gl 10 (tab_10.flatMap en_10)) rfl ⟨hG10.1, fun hm => hG10.2.1 (hm.elim id (fun hm => absurd hm (by simp [mines, sl, gl]))), hG10.2.2⟩
 have h0g12 := h0g10.add (gl 12 (tab_12.flatMap en_12)) rfl ⟨hG12.1, fun hm => hG12.2.1 (hm.elim id (fun hm => absurd hm (by simp [mines, sl, gl]))), hG12.2.2⟩
 have h0 : Holds M0 w0 w0 [gl 5 (tab_5.flatMap en_5), gl 9 (tab_9.flatMap en_9), gl 10 (tab_10.flatMap en_10), gl 12 (tab_12.flatMap en_12)] := h0g12
 refine calls_of F56 rfl [.agg #[.int .i64 p0_0_0, .int .u8 p0_0_1, .int .u8 p0_0_2, .int .u16 p0_0_3, .int .i64 p0_0_4, .int .i64 p0_0_5, .int .i64 p0_1, .int .i64 p0_2, .int .i64 p0_3, .int .i64 p0_4, .int .i64 p0_5]] (by kernel_rfl) ?_
 refine RunsI.g 1 [.c 1, .c 2] ?_
 refine RunsI.r ?_
 refine RegI.o (OpE.box 1 92 [.int .i64 p0_0_0, .int .u8 p0_0_1, .int .u8 p0_0_2, .int .u16 p0_0_3, .int .i64 p0_0_4, .int .i64 p0_0_5, .int .i64 p0_1, .int .i64 p0_2, .int .i64 p0_3, .int .i64 p0_4, .int .i64 p0_5] h0 (by kernel_rfl) (by kernel_rfl) ?_)
 intro w1 b2 h3 hb4 hn5
 refine RegI.p 1 [(1, .pointer (some ⟨b2, 0, none⟩))] ?_
 refine RegI.d ?_
 refine RunsI.g 1 [.c 3, .c 4] ?_
 refine RunsI.r ?_
 refine RegI.p 1 [(1, .pointer (some ⟨b2, 0, none⟩)), (4, .pointer (some ⟨b2, 8, none⟩))] ?_
 refine RegI.o (OpE.loadBox 5 4 3 b2 8 (.int .i64 p0_3) h3 (by kernel_rfl) (by kernel_rfl) rfl (by kernel_rfl) ?_)
 obtain ⟨hc6, h⟩ := of_cond0 h
 refine RegI.o (OpE.run 6 (by kernel_rfl) (run_idxArr (T := 122) (b := 5) (o := 0) (ix := p0_3) (len := 8) (s := 1) (by kernel_rfl) (by kernel_rfl) hc6) ?_)
 refine RegI.o (OpE.loadTab 7 0 9 en_5 tab_5 0 1 p0_3 (.string (rdD tab_5 p0_3)) (o := 0 + (Int.toNat p0_3) * 1 + 0) h3 (by kernel_rfl) rfl (fun _ => rfl) (by kernel_rfl) (by omega) hc6 (fun _ => by kernel_rfl) ?_)
 refine RegI.p 1 [(1, .pointer (some ⟨b2, 0, none⟩)), (3, .string (rdD tab_5 p0_3))] ?_
 refine RegI.d ?_
 refine RunsI.g 2 [.c 6, .c 7, .c 16] ?_
 refine RunsI.r ?_
 refine RegI.p 2 [(1, .pointer (some ⟨b2, 0, none⟩)), (3, .string (rdD tab_5 p0_3)), (9, .pointer (some ⟨b2, 0, none⟩))] ?_
 refine RegI.o (OpE.loadBox 10 4 3 b2 0 (.int .i64 p0_0_0) h3 (by kernel_rfl) (by kernel_rfl) rfl (by kernel_rfl) ?_)
 refine RegI.p 1 [(1, .pointer (some ⟨b2, 0, none⟩)), (3, .string (rdD tab_5 p0_3)), (11, .bool (p0_0_0 != 1))] ?_
 refine RegI.d ?_
 obtain ⟨j26, hJ27, h⟩ := of_let h
 have hj28 : ∀ (t23 : ByteArray) (w25 : World), j26 t23 = some r → Holds M0 w0 w25 [box b2 92 [.int .i64 p0_0_0, .int .u8 p0_0_1, .int .u8 p0_0_2, .int .u16 p0_0_3, .int .i64 p0_0_4, .int .i64 p0_0_5, .int .i64 p0_1, .int .i64 p0_2, .int .i64 p0_3, .int .i64 p0_4, .int .i64 p0_5], gl 5 (tab_5.flatMap en_5), gl 9 (tab_9.flatMap en_9), gl 10 (tab_10.flatMap en_10), gl 12 (tab_12.flatMap en_12)] → RunsI F56 [.c 16] [(1, .pointer (some ⟨b2, 0, none⟩)), (3, .string t23)] w25 (text_shown_bit_56.post M0 w0 r) := by
  intro t23 w25 h h24
  rw [hJ27] at h
  clear hJ27
  dsimp only at h
  refine RunsI.g 2 [.c 18, .c 19, .c 24] ?_
  refine RunsI.r ?_
  refine RegI.p 1 [(1, .pointer (some ⟨b2, 0, none⟩)), (3, .string t23), (34, .pointer (some ⟨b2, 6, none⟩))] ?_
  refine RegI.o (OpE.loadBox 35 0 3 b2 6 (.int .i64 p0_1) h24 (by kernel_rfl) (by kernel_rfl) rfl (by kernel_rfl) ?_)
  refine RegI.p 1 [(1, .pointer (some ⟨b2, 0, none⟩)), (3, .string t23), (36, .bool (p0_1 == 0))] ?_
  refine RegI.d ?_
  rcases of_cond h with ⟨hc29, h⟩ | ⟨hc29, h⟩
  ·skip
   refine RunsI.f 36 true hc29 ?_
   refine RunsI.b true 20 ?_
   refine RunsI.g 1 [.c 21, .c 22, .c 24] ?_
   refine RunsI.r ?_
   refine RegI.p 1 [(3, .string t23), (37, .pointer (some ⟨b2, 7, none⟩))] ?_
   refine RegI.o (OpE.loadBox 38 0 3 b2 7 (.int .i64 p0_2) h24 (by kernel_rfl) (by kernel_rfl) rfl (by kernel_rfl) ?_)
   obtain ⟨hc30, h⟩ := of_cond0 h
   refine RegI.o (OpE.run 39 (by kernel_rfl) (run_idxArr (T := 122) (b := 9) (o := 0) (ix := p0_2) (len := 8) (s := 1) (by kernel_rfl) (by kernel_rfl) hc30) ?_)
   refine RegI.o (OpE.loadTab 40 2 9 en_9 tab_9 0 1 p0_2 (.string (rdD tab_9 p0_2)) (o := 0 + (Int.toNat p0_2) * 1 + 0) h24 (by kernel_rfl) rfl (fun _ => rfl) (by kernel_rfl) (by omega) hc30 (fun _ => by kernel_rfl) ?_)
   refine RegI.p 1 [(40, .string (rdD tab_9 p0_2)), (41, .string t23)] ?_
   obtain ⟨hc31, h⟩ := of_cond0 h
   refine RegI.o (OpE.run 42 (by kernel_rfl) (run_cat (a := (rdD tab_9 p0_2)) (b := t23) (by kernel_rfl) hc31) ?_)
   refine RegI.p 1 [(2, .string ((rdD tab_9 p0_2) ++ t23))] ?_
   refine RegI.d ?_
   refine RunsI.t (.string ((rdD tab_9 p0_2) ++ t23)) ?_
   obtain rfl := Option.some.inj h
   exact ⟨rfl, h24.below⟩
  ·skip
   refine RunsI.f 36 false hc29 ?_
   refine RunsI.b false 23 ?_
   refine RunsI.g 1 [.c 24] ?_
   refine RunsI.g 1 [.c 25, .c 26] ?_
   refine RunsI.any 12 (by kernel_rfl) (by kernel_rfl) (by kernel_rfl) (Kp ([] : List Nat) (World.drew w25)) ?_
   have h33 := h24.drew
   generalize World.drew w25 = w32 at h33 ⊢
   have hS34 := Kp.refl ([] : List Nat) w32
   refine AnyE.pure 0 43 (.pointer (some ⟨b2, 6, none⟩)) (by kernel_rfl) hS34 (fun _ => by kernel_rfl) ?_
   refine AnyE.loadBox 1 44 0 3 b2 6 (.int .i64 p0_1) [] h33 rfl (by kernel_rfl) hS34 rfl rfl (by kernel_rfl) (by kernel_rfl) ?_
   obtain ⟨hc36, h⟩ := of_cond0 h
   refine AnyE.run 2 45 (.pointer (some ⟨10, 0 + (Int.toNat p0_1) * 1, none⟩)) (by kernel_rfl) hS34 (fun _ hk => run_idxArr (T := 123) (b := 10) (o := 0) (ix := p0_1) (len := 4) (s := 1) (by kernel_rfl) (by kernel_rfl) hc36) ?_
   refine AnyE.loadTab 3 46 3 9 en_10 tab_10 0 1 p0_1 (.string (rdD tab_10 p0_1)) [] (o := 0 + (Int.toNat p0_1) * 1 + 0) h33 rfl (by kernel_rfl) hS34 rfl rfl (fun _ => rfl) (by kernel_rfl) (by omega) hc36 (fun _ => by kernel_rfl) ?_
   refine AnyE.pure 4 47 (.pointer (some ⟨b2, 7, none⟩)) (by kernel_rfl) hS34 (fun _ => by kernel_rfl) ?_
   refine AnyE.loadBox 5 48 0 3 b2 7 (.int .i64 p0_2) [] h33 rfl (by kernel_rfl) hS34 rfl rfl (by kernel_rfl) (by kernel_rfl) ?_
   obtain ⟨t38, hg37, h⟩ := of_bind h
   refine AnyE.call 6 49 (.string t38) 93 #[.int .i64 p0_2] (by kernel_rfl) hS34 (fun _ => by kernel_rfl) (fun w hk => strconv_Itoa_93_ok K (fun _ => False) w p0_2 (fun _ hf => hf.elim) ⟨(h33.atI [] rfl hk 4 rfl rfl).1, fun hf => hf.elim, (h33.atI [] rfl hk 4 rfl rfl).2.2⟩ hg37) ?_
   obtain ⟨hc39, h⟩ := of_cond0 h
   refine AnyE.run 7 50 (.string ((rdD tab_10 p0_1) ++ t38)) (by kernel_rfl) hS34 (fun _ hk => run_cat (a := (rdD tab_10 p0_1)) (b := t38) (by kernel_rfl) hc39) ?_
   obtain ⟨hc40, h⟩ := of_cond0 h
   refine AnyE.run 8 51 (.string (((rdD tab_10 p0_1) ++ t38) ++ (⟨#[44]⟩ : ByteArray))) (by kernel_rfl) hS34 (fun _ hk => run_cat (a := ((rdD tab_10 p0_1) ++ t38)) (b := (⟨#[44]⟩ : ByteArray)) (by kernel_rfl) hc40) ?_
   refine AnyE.pure 9 52 (.string t23) (by kernel_rfl) hS34 (fun _ => by kernel_rfl) ?_
   obtain ⟨hc41, h⟩ := of_cond0 h
   refine AnyE.run 10 53 (.string ((((rdD tab_10 p0_1) ++ t38) ++ (⟨#[44]⟩ : ByteArray)) ++ t23)) (by kernel_rfl) hS34 (fun _ hk => run_cat (a := (((rdD tab_10 p0_1) ++ t38) ++ (⟨#[44]⟩ : ByteArray))) (b := t23) (by kernel_rfl) hc41) ?_
   refine AnyE.pure 11 2 (.string ((((rdD tab_10 p0_1) ++ t38) ++ (⟨#[44]⟩ : ByteArray)) ++ t23)) (by kernel_rfl) hS34 (fun _ => by kernel_rfl) ?_
   refine AnyE.done (by kernel_rfl) (fun w42 hu43 => ?_)
   have h44 := h33.call hu43
   refine RunsI.l [2] [(2, .string ((((rdD tab_10 p0_1) ++ t38) ++ (⟨#[44]⟩ : ByteArray)) ++ t23))] ?_
   refine RunsI.t (.string ((((rdD tab_10 p0_1) ++ t38) ++ (⟨#[44]⟩ : ByteArray)) ++ t23)) ?_
   obtain rfl := Option.some.inj h
   exact ⟨rfl, h44.below⟩
 clear hJ27
 rcases of_cond h with ⟨hc7, h⟩ | ⟨hc7, h⟩
 ·skip
  refine RunsI.f 11 true hc7 ?_
  refine RunsI.b true 8 ?_
  refine RunsI.g 1 [.c 9, .c 10, .c 16] ?_
  refine RunsI.r ?_
  refine RegI.p 2 [(1, .pointer (some ⟨b2, 0, none⟩)), (13, .pointer (some ⟨b2, 0, none⟩))] ?_
  refine RegI.o (OpE.loadBox 14 4 3 b2 0 (.int .i64 p0_0_0) h3 (by kernel_rfl) (by kernel_rfl) rfl (by kernel_rfl) ?_)
  refine RegI.p 2 [(1, .pointer (some ⟨b2, 0, none⟩)), (14, .int .i64 p0_0_0), (16, .pointer (some ⟨b2, 2, none⟩))] ?_
  refine RegI.o (OpE.loadBox 17 4 5 b2 2 (.int .u8 p0_0_2) h3 (by kernel_rfl) (by kernel_rfl) rfl (by kernel_rfl) ?_)
  obtain ⟨t12, hg11, h⟩ := of_bind h
  refine RegI.o (OpE.call 18 (by kernel_rfl) 49 #[.int .i64 p0_0_0, .int .u8 p0_0_2] (by kernel_rfl) ((text_Index_49_ok K _ w1  p0_0_0 p0_0_2 h3.old' (h3.get 3 rfl) hg11).mono ?_))
  rintro _ w8 ⟨rfl, hb9⟩
  refine ⟨_, rfl, ?_⟩
  have h10 := h3.call hb9
  refine RegI.p 1 [(1, .pointer (some ⟨b2, 0, none⟩)), (3, .string t12)] ?_
  refine RegI.d ?_
  refine RunsI.g 1 [.c 11, .c 12, .c 16] ?_
  refine RunsI.r ?_
  refine RegI.p 1 [(1, .pointer (some ⟨b2, 0, none⟩)), (3, .string t12), (19, .pointer (some ⟨b2, 6, none⟩))] ?_
  refine RegI.o (OpE.loadBox 20 4 3 b2 6 (.int .i64 p0_1) h10 (by kernel_rfl) (by kernel_rfl) rfl (by kernel_rfl) ?_)
  refine RegI.p 2 [(1, .pointer (some ⟨b2, 0, none⟩)), (3, .string t12), (22, .bool (p0_1 != 1))] ?_
  obtain ⟨j17, hJ18, h⟩ := of_let h
  have hj19 : ∀ (t14 : Bool) (w16 : World), j17 t14 = some r → Holds M0 w0 w16 [box b2 92 [.int .i64 p0_0_0, .int .u8 p0_0_1, .int .u8 p0_0_2, .int .u16 p0_0_3, .int .i64 p0_0_4, .int .i64 p0_0_5, .int .i64 p0_1, .int .i64 p0_2, .int .i64 p0_3, .int .i64 p0_4, .int .i64 p0_5], gl 5 (tab_5.flatMap en_5), gl 9 (tab_9.flatMap en_9), gl 10 (tab_10.flatMap en_10), gl 12 (tab_12.flatMap en_12)] → RegI F56 11 [.c 12, .c 16] 8 [(1, .pointer (some ⟨b2, 0, none⟩)), (3, .string t12), (26, .bool t14)] w16 (text_shown_bit_56.post M0 w0 r) := by
   intro t14 w16 h h15
   rw [hJ18] at h
   clear hJ18
   dsimp only at h
   refine RegI.d ?_
   rcases of_cond h with ⟨hc20, h⟩ | ⟨hc20, h⟩
   ·skip
    refine RunsI.f 26 true hc20 ?_
    refine RunsI.b true 13 ?_
    refine RunsI.r ?_
    refine RegI.p 2 [(1, .pointer (some ⟨b2, 0, none⟩)), (27, .string t12), (28, .pointer (some ⟨b2, 8, none⟩))] ?_
    refine RegI.o (OpE.loadBox 29 0 3 b2 8 (.int .i64 p0_3) h15 (by kernel_rfl) (by kernel_rfl) rfl (by kernel_rfl) ?_)
    refine RegI.o (OpE.run 30 (by kernel_rfl) (run_idxArr (T := 122) (b := 5) (o := 0) (ix := p0_3) (len := 8) (s := 1) (by kernel_rfl) (by kernel_rfl) hc6) ?_)
    refine RegI.o (OpE.loadTab 31 1 9 en_5 tab_5 0 1 p0_3 (.string (rdD tab_5 p0_3)) (o := 0 + (Int.toNat p0_3) * 1 + 0) h15 (by kernel_rfl) rfl (fun _ => rfl) (by kernel_rfl) (by omega) hc6 (fun _ => by kernel_rfl) ?_)
    obtain ⟨hc21, h⟩ := of_cond0 h
    refine RegI.o (OpE.run 32 (by kernel_rfl) (run_cat (a := (⟨#[44]⟩ : ByteArray)) (b := (rdD tab_5 p0_3)) (by kernel_rfl) hc21) ?_)
    obtain ⟨hc22, h⟩ := of_cond0 h
    refine RegI.o (OpE.run 33 (by kernel_rfl) (run_cat (a := t12) (b := ((⟨#[44]⟩ : ByteArray) ++ (rdD tab_5 p0_3))) (by kernel_rfl) hc22) ?_)
    refine RegI.p 1 [(1, .pointer (some ⟨b2, 0, none⟩)), (3, .string (t12 ++ ((⟨#[44]⟩ : ByteArray) ++ (rdD tab_5 p0_3))))] ?_
    refine RegI.d ?_
    refine RunsI.l [1, 3] [(1, .pointer (some ⟨b2, 0, none⟩)), (3, .string (t12 ++ ((⟨#[44]⟩ : ByteArray) ++ (rdD tab_5 p0_3))))] ?_
    exact hj28 (t12 ++ ((⟨#[44]⟩ : ByteArray) ++ (rdD tab_5 p0_3))) w16 h (h15.pick [0, 1, 2, 3, 4] (by decide))
   ·skip
    refine RunsI.f 26 false hc20 ?_
    refine RunsI.b false 14 ?_
    refine RunsI.g 1 [.c 16] ?_
    refine RunsI.l [1, 3] [(1, .pointer (some ⟨b2, 0, none⟩)), (3, .string t12)] ?_
    exact hj28 t12 w16 h (h15.pick [0, 1, 2, 3, 4] (by decide))
  clear hJ18
  rcases of_cond h with ⟨hc13, h⟩ | ⟨hc13, h⟩
  ·skip
   refine RegI.f 22 true hc13 ?_
   refine RegI.p 1 [(1, .pointer (some ⟨b2, 0, none⟩)), (3, .string t12), (22, .bool true), (23, .pointer (some ⟨b2, 8, none⟩))] ?_
   refine RegI.o (OpE.loadBox 24 4 3 b2 8 (.int .i64 p0_3) h10 (by kernel_rfl) (by kernel_rfl) rfl (by kernel_rfl) ?_)
   refine RegI.p 2 [(1, .pointer (some ⟨b2, 0, none⟩)), (3, .string t12), (26, .bool (p0_3 != 6))] ?_
   refine RegI.l [1, 3, 26] [(1, .pointer (some ⟨b2, 0, none⟩)), (3, .string t12), (26, .bool (p0_3 != 6))] ?_
   exact hj19 (p0_3 != 6) w8 h (h10.pick [4, 0, 1, 2, 3] (by decide))
  ·skip
   refine RegI.f 22 false hc13 ?_
   refine RegI.p 4 [(1, .pointer (some ⟨b2, 0, none⟩)), (3, .string t12), (26, .bool false)] ?_
   refine RegI.l [1, 3, 26] [(1, .pointer (some ⟨b2, 0, none⟩)), (3, .string t12), (26, .bool false)] ?_
   exact hj19 false w8 h (h10.pick [4, 0, 1, 2, 3] (by decide))
 ·skip
  refine RunsI.f 11 false hc7 ?_
  refine RunsI.b false 15 ?_
  refine RunsI.g 1 [.c 16] ?_
  refine RunsI.l [1, 3] [(1, .pointer (some ⟨b2, 0, none⟩)), (3, .string (rdD tab_5 p0_3))] ?_
  exact hj28 (rdD tab_5 p0_3) w1 h (h3.pick [4, 0, 1, 2, 3] (by decide))
end

/-! ### charabanc/text.Show (function 26) -/
section
def text_Show_26.post (M0 : Nat → Prop) (w0 : World) (r : ByteArray) : Ending → World → Prop := fun e w => e = .returned (.string r) ∧ Below w0.heap.size w0 w
def text_Show_26.f (K : Nat) (p0_0 : Int) (p0_1 : Int) (p0_2 : Int) (p0_3 : Int) (p0_4 : Int) (p0_5 : Int) : Option ByteArray := (text_of_50.f K p0_0 p0_1 p0_2 p0_3 p0_4 p0_5).bind fun yt10 => Let (fun (t39 : Bool) => cond t39 (cond (yt10.2.2.2.2.2.2.1 == 0) ((text_shown_low_51.f K yt10.1 yt10.2.1 yt10.2.2.1 yt10.2.2.2.1 yt10.2.2.2.2.1 yt10.2.2.2.2.2.1 yt10.2.2.2.2.2.2.1 yt10.2.2.2.2.2.2.2.1 yt10.2.2.2.2.2.2.2.2.1 yt10.2.2.2.2.2.2.2.2.2.1 yt10.2.2.2.2.2.2.2.2.2.2).bind fun t51 => some t51) (cond (yt10.2.2.2.2.2.2.1 == 1) ((text_shown_moves_52.f K yt10.1 yt10.2.1 yt10.2.2.1 yt10.2.2.2.1 yt10.2.2.2.2.1 yt10.2.2.2.2.2.1 yt10.2.2.2.2.2.2.1 yt10.2.2.2.2.2.2.2.1 yt10.2.2.2.2.2.2.2.2.1 yt10.2.2.2.2.2.2.2.2.2.1 yt10.2.2.2.2.2.2.2.2.2.2).bind fun t57 => some t57) (cond (yt10.2.2.2.2.2.2.1 == 2) ((text_shown_sums_53.f K yt10.1 yt10.2.1 yt10.2.2.1 yt10.2.2.2.1 yt10.2.2.2.2.1 yt10.2.2.2.2.2.1 yt10.2.2.2.2.2.2.1 yt10.2.2.2.2.2.2.2.1 yt10.2.2.2.2.2.2.2.2.1 yt10.2.2.2.2.2.2.2.2.2.1 yt10.2.2.2.2.2.2.2.2.2.2).bind fun t63 => some t63) (cond (yt10.2.2.2.2.2.2.1 == 3) ((text_shown_high_54.f K yt10.1 yt10.2.1 yt10.2.2.1 yt10.2.2.2.1 yt10.2.2.2.2.1 yt10.2.2.2.2.2.1 yt10.2.2.2.2.2.2.1 yt10.2.2.2.2.2.2.2.1 yt10.2.2.2.2.2.2.2.2.1 yt10.2.2.2.2.2.2.2.2.2.1 yt10.2.2.2.2.2.2.2.2.2.2).bind fun t69 => some t69) none)))) (cond (p0_0 == 2) ((text_shown_far_55.f K yt10.1 yt10.2.1 yt10.2.2.1 yt10.2.2.2.1 yt10.2.2.2.2.1 yt10.2.2.2.2.2.1 yt10.2.2.2.2.2.2.1 yt10.2.2.2.2.2.2.2.1 yt10.2.2.2.2.2.2.2.2.1 yt10.2.2.2.2.2.2.2.2.2.1 yt10.2.2.2.2.2.2.2.2.2.2).bind fun t75 => some t75) (Let (fun (t78 : Bool) => cond t78 ((text_shown_bit_56.f K yt10.1 yt10.2.1 yt10.2.2.1 yt10.2.2.2.1 yt10.2.2.2.2.1 yt10.2.2.2.2.2.1 yt10.2.2.2.2.2.2.1 yt10.2.2.2.2.2.2.2.1 yt10.2.2.2.2.2.2.2.2.1 yt10.2.2.2.2.2.2.2.2.2.1 yt10.2.2.2.2.2.2.2.2.2.2).bind fun t89 => some t89) (some (⟨#[63]⟩ : ByteArray))) (fun j81 => cond (p0_0 == 1) (j81 true) (cond (p0_0 == 5) (j81 true) (j81 (p0_0 == 6))))))) (fun j42 => cond (p0_0 == 0) (j42 true) (cond (p0_0 == 3) (j42 true) (j42 (p0_0 == 4))))
set_option maxRecDepth 100000 in
theorem text_Show_26_ok (K : Nat) (M0 : Nat → Prop) (w0 : World) (p0_0 : Int) (p0_1 : Int) (p0_2 : Int) (p0_3 : Int) (p0_4 : Int) (p0_5 : Int) (ho : ∀ b, M0 b → b < w0.heap.size) (hG0 : (gl 0 (tab_0.flatMap en_0)).ok w0 M0) (hG1 : (gl 1 (tab_1.flatMap en_1)).ok w0 M0) (hG2 : (gl 2 (tab_2.flatMap en_2)).ok w0 M0) (hG3 : (gl 3 (tab_3.flatMap en_3)).ok w0 M0) (hG4 : (gl 4 (tab_4.flatMap en_4)).ok w0 M0) (hG5 : (gl 5 (tab_5.flatMap en_5)).ok w0 M0) (hG6 : (gl 6 (tab_6.flatMap en_6)).ok w0 M0) (hG7 : (gl 7 (tab_7.flatMap en_7)).ok w0 M0) (hG8 : (gl 8 (tab_8.flatMap en_8)).ok w0 M0) (hG9 : (gl 9 (tab_9.flatMap en_9)).ok w0 M0) (hG10 : (gl 10 (tab_10.flatMap en_10)).ok w0 M0) (hG12 : (gl 12 (tab_12.flatMap en_12)).ok w0 M0) (hG15 : (gl 15 (tab_15.flatMap en_15)).ok w0 M0) (hG16 : (gl 16 (tab_16.flatMap en_16)).ok w0 M0) {r : ByteArray} (h : text_Show_26.f K p0_0 p0_1 p0_2 p0_3 p0_4 p0_5 = some r) :
  Calls Tryd.prog 26 #[.agg #[.int .i64 p0_0, .int .u8 p0_1, .int .u8 p0_2, .int .u16 p0_3, .int .i64 p0_4, .int .i64 p0_5]] w0 (text_Show_26.post M0 w0 r) := by
 unfold text_Show_26.f at h
 have h0 : Holds M0 w0 w0 [] := Holds.start ho
 have h0g0 := h0.add (gl 0 (tab_0.flatMap en_0)) rfl ⟨hG0.1, fun hm => hG0.2.1 (hm.elim id (fun hm => absurd hm (by simp [mines, sl, gl]))), hG0.2.2⟩
 have h0g1 := h0g0.add (gl 1 (tab_1.flatMap en_1)) rfl ⟨hG1.1, fun hm => hG1.2.1 (hm.elim id (fun hm => absurd hm (by simp [mines, sl, gl]))), hG1.2.2⟩
 have h0g2 := h0g1.add (gl 2 (tab_2.flatMap en_2)) rfl ⟨hG2.1, fun hm => hG2.2.1 (hm.elim id (fun hm => absurd hm (by simp [mines, sl, gl]))), hG2.2.2⟩
 have h0g3 := h0g2.add (gl 3 (tab_3.flatMap en_3)) rfl ⟨hG3.1, fun hm => hG3.2.1 (hm.elim id (fun hm => absurd hm (by simp [mines, sl, gl]))), hG3.2.2⟩
 have h0g4 := h0g3.add (gl 4 (tab_4.flatMap en_4)) rfl ⟨hG4.1, fun hm => hG4.2.1 (hm.elim id (fun hm => absurd hm (by simp [mines, sl, gl]))), hG4.2.2⟩
 have h0g5 := h0g4.add (gl 5 (tab_5.flatMap en_5)) rfl ⟨hG5.1, fun hm => hG5.2.1 (hm.elim id (fun hm => absurd hm (by simp [mines, sl, gl]))), hG5.2.2⟩
 have h0g6 := h0g5.add (gl 6 (tab_6.flatMap en_6)) rfl ⟨hG6.1, fun hm => hG6.2.1 (hm.elim id (fun hm => absurd hm (by simp [mines, sl, gl]))), hG6.2.2⟩
 have h0g7 := h0g6.add (gl 7 (tab_7.flatMap en_7)) rfl ⟨hG7.1, fun hm => hG7.2.1 (hm.elim id (fun hm => absurd hm (by simp [mines, sl, gl]))), hG7.2.2⟩
 have h0g8 := h0g7.add (gl 8 (tab_8.flatMap en_8)) rfl ⟨hG8.1, fun hm => hG8.2.1 (hm.elim id (fun hm => absurd hm (by simp [mines, sl, gl]))), hG8.2.2⟩
 have h0g9 := h0g8.add (gl 9 (tab_9.flatMap en_9)) rfl ⟨hG9.1, fun hm => hG9.2.1 (hm.elim id (fun hm => absurd hm (by simp [mines, sl, gl]))), hG9.2.2⟩
 have h0g10 := h0g9.add (gl 10 (tab_10.flatMap en_10)) rfl ⟨hG10.1, fun hm => hG10.2.1 (hm.elim id (fun hm => absurd hm (by simp [mines, sl, gl]))), hG10.2.2⟩
 have h0g12 := h0g10.add (gl 12 (tab_12.flatMap en_12)) rfl ⟨hG12.1, fun hm => hG12.2.1 (hm.elim id (fun hm => absurd hm (by simp [mines, sl, gl]))), hG12.2.2⟩
 have h0g15 := h0g12.add (gl 15 (tab_15.flatMap en_15)) rfl ⟨hG15.1, fun hm => hG15.2.1 (hm.elim id (fun hm => absurd hm (by simp [mines, sl, gl]))), hG15.2.2⟩
 have h0g16 := h0g15.add (gl 16 (tab_16.flatMap en_16)) rfl ⟨hG16.1, fun hm => hG16.2.1 (hm.elim id (fun hm => absurd hm (by simp [mines, sl, gl]))), hG16.2.2⟩
 have h0 : Holds M0 w0 w0 [gl 0 (tab_0.flatMap en_0), gl 1 (tab_1.flatMap en_1), gl 2 (tab_2.flatMap en_2), gl 3 (tab_3.flatMap en_3), gl 4 (tab_4.flatMap en_4), gl 5 (tab_5.flatMap en_5), gl 6 (tab_6.flatMap en_6), gl 7 (tab_7.flatMap en_7), gl 8 (tab_8.flatMap en_8), gl 9 (tab_9.flatMap en_9), gl 10 (tab_10.flatMap en_10), gl 12 (tab_12.flatMap en_12), gl 15 (tab_15.flatMap en_15), gl 16 (tab_16.flatMap en_16)] := h0g16
 refine calls_of F26 rfl [.agg #[.int .i64 p0_0, .int .u8 p0_1, .int .u8 p0_2, .int .u16 p0_3, .int .i64 p0_4, .int .i64 p0_5]] (by kernel_rfl) ?_
 refine RunsI.g 1 [.c 1, .c 2] ?_
 refine RunsI.r ?_
 refine RegI.o (OpE.box 1 51 [.int .i64 p0_0, .int .u8 p0_1, .int .u8 p0_2, .int .u16 p0_3, .int .i64 p0_4, .int .i64 p0_5] h0 (by kernel_rfl) (by kernel_rfl) ?_)
 intro w1 b2 h3 hb4 hn5
 refine RegI.p 1 [(1, .pointer (some ⟨b2, 0, none⟩))] ?_
 refine RegI.d ?_
 refine RunsI.g 1 [.c 3, .c 4] ?_
 refine RunsI.r ?_
 refine RegI.o (OpE.loadBox 5 14 51 b2 0 (.agg #[.int .i64 p0_0, .int .u8 p0_1, .int .u8 p0_2, .int .u16 p0_3, .int .i64 p0_4, .int .i64 p0_5]) h3 (by kernel_rfl) (by kernel_rfl) rfl (by kernel_rfl) ?_)
 obtain ⟨⟨t10, t11, t12, t13, t14, t15, t16, t17, t18, t19, t20⟩, hg9, h⟩ := of_bind h
 dsimp only at h
 refine RegI.o (OpE.call 6 (by kernel_rfl) 50 #[.agg #[.int .i64 p0_0, .int .u8 p0_1, .int .u8 p0_2, .int .u16 p0_3, .int .i64 p0_4, .int .i64 p0_5]] (by kernel_rfl) ((text_of_50_ok K _ w1  p0_0 p0_1 p0_2 p0_3 p0_4 p0_5 h3.old' hg9).mono ?_))
 rintro _ w6 ⟨rfl, hb7⟩
 refine ⟨_, rfl, ?_⟩
 have h8 := h3.call hb7
 refine RegI.o (OpE.box 3 92 [.int .i64 0, .int .u8 0, .int .u8 0, .int .u16 0, .int .i64 0, .int .i64 0, .int .i64 0, .int .i64 0, .int .i64 0, .int .i64 0, .int .i64 0] h8 (by kernel_rfl) (by kernel_rfl) ?_)
 intro w21 b22 h23 hb24 hn25
 refine RegI.o (OpE.storeBox 15 92 b22 0 (.agg #[.int .i64 t10, .int .u8 t11, .int .u8 t12, .int .u16 t13, .int .i64 t14, .int .i64 t15, .int .i64 t16, .int .i64 t17, .int .i64 t18, .int .i64 t19, .int .i64 t20]) [.int .i64 t10, .int .u8 t11, .int .u8 t12, .int .u16 t13, .int .i64 t14, .int .i64 t15, .int .i64 t16, .int .i64 t17, .int .i64 t18, .int .i64 t19, .int .i64 t20] h23 (by kernel_rfl) (by kernel_rfl) rfl (by kernel_rfl) (by kernel_rfl) (by kernel_rfl) ?_)
 intro w26 h27 hk28
 refine RegI.d ?_
 refine RunsI.g 1 [.c 5, .c 6] ?_
 refine RunsI.r ?_
 refine RegI.o (OpE.loadBox 7 15 92 b22 0 (.agg #[.int .i64 t10, .int .u8 t11, .int .u8 t12, .int .u16 t13, .int .i64 t14, .int .i64 t15, .int .i64 t16, .int .i64 t17, .int .i64 t18, .int .i64 t19, .int .i64 t20]) h27 (by kernel_rfl) (by kernel_rfl) rfl (by kernel_rfl) ?_)
 refine RegI.p 1 [(1, .pointer (some ⟨b2, 0, none⟩)), (3, .pointer (some ⟨b22, 0, none⟩)), (8, .func (.func 51) #[.agg #[.int .i64 t10, .int .u8 t11, .int .u8 t12, .int .u16 t13, .int .i64 t14, .int .i64 t15, .int .i64 t16, .int .i64 t17, .int .i64 t18, .int .i64 t19, .int .i64 t20]] #[])] ?_
 refine RegI.o (OpE.loadBox 9 15 92 b22 0 (.agg #[.int .i64 t10, .int .u8 t11, .int .u8 t12, .int .u16 t13, .int .i64 t14, .int .i64 t15, .int .i64 t16, .int .i64 t17, .int .i64 t18, .int .i64 t19, .int .i64 t20]) h27 (by kernel_rfl) (by kernel_rfl) rfl (by kernel_rfl) ?_)
 refine RegI.p 1 [(1, .pointer (some ⟨b2, 0, none⟩)), (3, .pointer (some ⟨b22, 0, none⟩)), (8, .func (.func 51) #[.agg #[.int .i64 t10, .int .u8 t11, .int .u8 t12, .int .u16 t13, .int .i64 t14, .int .i64 t15, .int .i64 t16, .int .i64 t17, .int .i64 t18, .int .i64 t19, .int .i64 t20]] #[]), (10, .func (.func 52) #[.agg #[.int .i64 t10, .int .u8 t11, .int .u8 t12, .int .u16 t13, .int .i64 t14, .int .i64 t15, .int .i64 t16, .int .i64 t17, .int .i64 t18, .int .i64 t19, .int .i64 t20]] #[])] ?_
 refine RegI.o (OpE.loadBox 11 15 92 b22 0 (.agg #[.int .i64 t10, .int .u8 t11, .int .u8 t12, .int .u16 t13, .int .i64 t14, .int .i64 t15, .int .i64 t16, .int .i64 t17, .int .i64 t18, .int .i64 t19, .int .i64 t20]) h27 (by kernel_rfl) (by kernel_rfl) rfl (by kernel_rfl) ?_)
 refine RegI.p 1 [(1, .pointer (some ⟨b2, 0, none⟩)), (3, .pointer (some ⟨b22, 0, none⟩)), (8, .func (.func 51) #[.agg #[.int .i64 t10, .int .u8 t11, .int .u8 t12, .int .u16 t13, .int .i64 t14, .int .i64 t15, .int .i64 t16, .int .i64 t17, .int .i64 t18, .int .i64 t19, .int .i64 t20]] #[]), (10, .func (.func 52) #[.agg #[.int .i64 t10, .int .u8 t11, .int .u8 t12, .int .u16 t13, .int .i64 t14, .int .i64 t15, .int .i64 t16, .int .i64 t17, .int .i64 t18, .int .i64 t19, .int .i64 t20]] #[]), (12, .func (.func 53) #[.agg #[.int .i64 t10, .int .u8 t11, .int .u8 t12, .int .u16 t13, .int .i64 t14, .int .i64 t15, .int .i64 t16, .int .i64 t17, .int .i64 t18, .int .i64 t19, .int .i64 t20]] #[])] ?_
 refine RegI.o (OpE.loadBox 13 15 92 b22 0 (.agg #[.int .i64 t10, .int .u8 t11, .int .u8 t12, .int .u16 t13, .int .i64 t14, .int .i64 t15, .int .i64 t16, .int .i64 t17, .int .i64 t18, .int .i64 t19, .int .i64 t20]) h27 (by kernel_rfl) (by kernel_rfl) rfl (by kernel_rfl) ?_)
 refine RegI.p 2 [(1, .pointer (some ⟨b2, 0, none⟩)), (3, .pointer (some ⟨b22, 0, none⟩)), (15, .agg #[.func (.func 51) #[.agg #[.int .i64 t10, .int .u8 t11, .int .u8 t12, .int .u16 t13, .int .i64 t14, .int .i64 t15, .int .i64 t16, .int .i64 t17, .int .i64 t18, .int .i64 t19, .int .i64 t20]] #[], .func (.func 52) #[.agg #[.int .i64 t10, .int .u8 t11, .int .u8 t12, .int .u16 t13, .int .i64 t14, .int .i64 t15, .int .i64 t16, .int .i64 t17, .int .i64 t18, .int .i64 t19, .int .i64 t20]] #[], .func (.func 53) #[.agg #[.int .i64 t10, .int .u8 t11, .int .u8 t12, .int .u16 t13, .int .i64 t14, .int .i64 t15, .int .i64 t16, .int .i64 t17, .int .i64 t18, .int .i64 t19, .int .i64 t20]] #[], .func (.func 54) #[.agg #[.int .i64 t10, .int .u8 t11, .int .u8 t12, .int .u16 t13, .int .i64 t14, .int .i64 t15, .int .i64 t16, .int .i64 t17, .int .i64 t18, .int .i64 t19, .int .i64 t20]] #[]])] ?_
 refine RegI.o (OpE.box 4 94 [.nilFunc, .nilFunc, .nilFunc, .nilFunc] h27 (by kernel_rfl) (by kernel_rfl) ?_)
 intro w29 b30 h31 hb32 hn33
 refine RegI.o (OpE.storeBox 16 94 b30 0 (.agg #[.func (.func 51) #[.agg #[.int .i64 t10, .int .u8 t11, .int .u8 t12, .int .u16 t13, .int .i64 t14, .int .i64 t15, .int .i64 t16, .int .i64 t17, .int .i64 t18, .int .i64 t19, .int .i64 t20]] #[], .func (.func 52) #[.agg #[.int .i64 t10, .int .u8 t11, .int .u8 t12, .int .u16 t13, .int .i64 t14, .int .i64 t15, .int .i64 t16, .int .i64 t17, .int .i64 t18, .int .i64 t19, .int .i64 t20]] #[], .func (.func 53) #[.agg #[.int .i64 t10, .int .u8 t11, .int .u8 t12, .int .u16 t13, .int .i64 t14, .int .i64 t15, .int .i64 t16, .int .i64 t17, .int .i64 t18, .int .i64 t19, .int .i64 t20]] #[], .func (.func 54) #[.agg #[.int .i64 t10, .int .u8 t11, .int .u8 t12, .int .u16 t13, .int .i64 t14, .int .i64 t15, .int .i64 t16, .int .i64 t17, .int .i64 t18, .int .i64 t19, .int .i64 t20]] #[]]) [.func (.func 51) #[.agg #[.int .i64 t10, .int .u8 t11, .int .u8 t12, .int .u16 t13, .int .i64 t14, .int .i64 t15, .int .i64 t16, .int .i64 t17, .int .i64 t18, .int .i64 t19, .int .i64 t20]] #[], .func (.func 52) #[.agg #[.int .i64 t10, .int .u8 t11, .int .u8 t12, .int .u16 t13, .int .i64 t14, .int .i64 t15, .int .i64 t16, .int .i64 t17, .int .i64 t18, .int .i64 t19, .int .i64 t20]] #[], .func (.func 53) #[.agg #[.int .i64 t10, .int .u8 t11, .int .u8 t12, .int .u16 t13, .int .i64 t14, .int .i64 t15, .int .i64 t16, .int .i64 t17, .int .i64 t18, .int .i64 t19, .int .i64 t20]] #[], .func (.func 54) #[.agg #[.int .i64 t10, .int .u8 t11, .int .u8 t12, .int .u16 t13, .int .i64 t14, .int .i64 t15, .int .i64 t16, .int .i64 t17, .int .i64 t18, .int .i64 t19, .int .i64 t20]] #[]] h31 (by kernel_rfl) (by kernel_rfl) rfl (by kernel_rfl) (by kernel_rfl) (by kernel_rfl) ?_)
 intro w34 h35 hk36
 refine RegI.d ?_
 refine RunsI.g 2 [.c 8, .c 9, .c 45] ?_
 refine RunsI.r ?_
 refine RegI.p 1 [(3, .pointer (some ⟨b22, 0, none⟩)), (4, .pointer (some ⟨b30, 0, none⟩)), (16, .pointer (some ⟨b2, 0, none⟩))] ?_
 refine RegI.o (OpE.loadBox 17 14 3 b2 0 (.int .i64 p0_0) h35 (by kernel_rfl) (by kernel_rfl) rfl (by kernel_rfl) ?_)
 refine RegI.d ?_
 refine RunsI.g 3 [.c 12, .c 13, .c 20, .blk 0, .c 45] ?_
 refine RunsI.r ?_
 refine RegI.p 2 [(3, .pointer (some ⟨b22, 0, none⟩)), (4, .pointer (some ⟨b30, 0, none⟩)), (17, .int .i64 p0_0), (18, .bool (p0_0 == 0))] ?_
 refine RegI.d ?_
 obtain ⟨j42, hJ43, h⟩ := of_let h
 have hj44 : ∀ (t39 : Bool) (w41 : World), j42 t39 = some r → Holds M0 w0 w41 [box b22 92 [.int .i64 t10, .int .u8 t11, .int .u8 t12, .int .u16 t13, .int .i64 t14, .int .i64 t15, .int .i64 t16, .int .i64 t17, .int .i64 t18, .int .i64 t19, .int .i64 t20], box b30 94 [.func (.func 51) #[.agg #[.int .i64 t10, .int .u8 t11, .int .u8 t12, .int .u16 t13, .int .i64 t14, .int .i64 t15, .int .i64 t16, .int .i64 t17, .int .i64 t18, .int .i64 t19, .int .i64 t20]] #[], .func (.func 52) #[.agg #[.int .i64 t10, .int .u8 t11, .int .u8 t12, .int .u16 t13, .int .i64 t14, .int .i64 t15, .int .i64 t16, .int .i64 t17, .int .i64 t18, .int .i64 t19, .int .i64 t20]] #[], .func (.func 53) #[.agg #[.int .i64 t10, .int .u8 t11, .int .u8 t12, .int .u16 t13, .int .i64 t14, .int .i64 t15, .int .i64 t16, .int .i64 t17, .int .i64 t18, .int .i64 t19, .int .i64 t20]] #[], .func (.func 54) #[.agg #[.int .i64 t10, .int .u8 t11, .int .u8 t12, .int .u16 t13, .int .i64 t14, .int .i64 t15, .int .i64 t16, .int .i64 t17, .int .i64 t18, .int .i64 t19, .int .i64 t20]] #[]], gl 0 (tab_0.flatMap en_0), gl 1 (tab_1.flatMap en_1), gl 2 (tab_2.flatMap en_2), gl 3 (tab_3.flatMap en_3), gl 4 (tab_4.flatMap en_4), gl 5 (tab_5.flatMap en_5), gl 6 (tab_6.flatMap en_6), gl 7 (tab_7.flatMap en_7), gl 8 (tab_8.flatMap en_8), gl 9 (tab_9.flatMap en_9), gl 10 (tab_10.flatMap en_10), gl 12 (tab_12.flatMap en_12), gl 15 (tab_15.flatMap en_15), gl 16 (tab_16.flatMap en_16)] → RunsI F26 [.c 20, .blk 0, .c 45] [(3, .pointer (some ⟨b22, 0, none⟩)), (4, .pointer (some ⟨b30, 0, none⟩)), (17, .int .i64 p0_0), (18, .bool t39)] w41 (text_Show_26.post M0 w0 r) := by
  intro t39 w41 h h40
  rw [hJ43] at h
  clear hJ43
  dsimp only at h
  rcases of_cond h with ⟨hc45, h⟩ | ⟨hc45, h⟩
  ·skip
   refine RunsI.f 18 true hc45 ?_
   refine RunsI.b true 21 ?_
   refine RunsI.g 1 [.c 22, .c 23, .blk 0, .c 45] ?_
   refine RunsI.r ?_
   refine RegI.p 1 [(4, .pointer (some ⟨b30, 0, none⟩)), (22, .pointer (some ⟨b22, 6, none⟩))] ?_
   refine RegI.o (OpE.loadBox 23 0 3 b22 6 (.int .i64 t16) h40 (by kernel_rfl) (by kernel_rfl) rfl (by kernel_rfl) ?_)
   rcases of_cond h with ⟨hc46, h⟩ | ⟨hc46, h⟩
   ·skip
    refine RegI.o (OpE.run 24 (by kernel_rfl) (run_idxArrK (T := 94) (b := b30) (o := 0) (ix := t16) (k := 0) (len := 4) (s := 1) (by kernel_rfl) (by kernel_rfl) hc46 (by kernel_rfl)) ?_)
    refine RegI.o (OpE.loadBox 25 1 83 b30 0 (.func (.func 51) #[.agg #[.int .i64 t10, .int .u8 t11, .int .u8 t12, .int .u16 t13, .int .i64 t14, .int .i64 t15, .int .i64 t16, .int .i64 t17, .int .i64 t18, .int .i64 t19, .int .i64 t20]] #[]) h40 (by kernel_rfl) (by kernel_rfl) rfl (by kernel_rfl) ?_)
    obtain ⟨t51, hg50, h⟩ := of_bind h
    refine RegI.o (OpE.call 26 (by kernel_rfl) 51 #[.agg #[.int .i64 t10, .int .u8 t11, .int .u8 t12, .int .u16 t13, .int .i64 t14, .int .i64 t15, .int .i64 t16, .int .i64 t17, .int .i64 t18, .int .i64 t19, .int .i64 t20]] (by kernel_rfl) ((text_shown_low_51_ok K _ w41  t10 t11 t12 t13 t14 t15 t16 t17 t18 t19 t20 h40.old' (h40.get 2 rfl) (h40.get 3 rfl) (h40.get 7 rfl) (h40.get 8 rfl) (h40.get 13 rfl) (h40.get 14 rfl) (h40.get 15 rfl) hg50).mono ?_))
    rintro _ w47 ⟨rfl, hb48⟩
    refine ⟨_, rfl, ?_⟩
    have h49 := h40.call hb48
    refine RegI.p 1 [(2, .string t51)] ?_
    refine RegI.d ?_
    refine RunsI.t (.string t51) ?_
    obtain rfl := Option.some.inj h
    exact ⟨rfl, h49.below⟩
   ·skip
    rcases of_cond h with ⟨hc52, h⟩ | ⟨hc52, h⟩
    ·skip
     refine RegI.o (OpE.run 24 (by kernel_rfl) (run_idxArrK (T := 94) (b := b30) (o := 0) (ix := t16) (k := 1) (len := 4) (s := 1) (by kernel_rfl) (by kernel_rfl) hc52 (by kernel_rfl)) ?_)
     refine RegI.o (OpE.loadBox 25 1 83 b30 1 (.func (.func 52) #[.agg #[.int .i64 t10, .int .u8 t11, .int .u8 t12, .int .u16 t13, .int .i64 t14, .int .i64 t15, .int .i64 t16, .int .i64 t17, .int .i64 t18, .int .i64 t19, .int .i64 t20]] #[]) h40 (by kernel_rfl) (by kernel_rfl) rfl (by kernel_rfl) ?_)
     obtain ⟨t57, hg56, h⟩ := of_bind h
     refine RegI.o (OpE.call 26 (by kernel_rfl) 52 #[.agg #[.int .i64 t10, .int .u8 t11, .int .u8 t12, .int .u16 t13, .int .i64 t14, .int .i64 t15, .int .i64 t16, .int .i64 t17, .int .i64 t18, .int .i64 t19, .int .i64 t20]] (by kernel_rfl) ((text_shown_moves_52_ok K _ w41  t10 t11 t12 t13 t14 t15 t16 t17 t18 t19 t20 h40.old' (h40.get 7 rfl) (h40.get 13 rfl) hg56).mono ?_))
     rintro _ w53 ⟨rfl, hb54⟩
     refine ⟨_, rfl, ?_⟩
     have h55 := h40.call hb54
     refine RegI.p 1 [(2, .string t57)] ?_
     refine RegI.d ?_
     refine RunsI.t (.string t57) ?_
     obtain rfl := Option.some.inj h
     exact ⟨rfl, h55.below⟩
    ·skip
     rcases of_cond h with ⟨hc58, h⟩ | ⟨hc58, h⟩
     ·skip
      refine RegI.o (OpE.run 24 (by kernel_rfl) (run_idxArrK (T := 94) (b := b30) (o := 0) (ix := t16) (k := 2) (len := 4) (s := 1) (by kernel_rfl) (by kernel_rfl) hc58 (by kernel_rfl)) ?_)
      refine RegI.o (OpE.loadBox 25 1 83 b30 2 (.func (.func 53) #[.agg #[.int .i64 t10, .int .u8 t11, .int .u8 t12, .int .u16 t13, .int .i64 t14, .int .i64 t15, .int .i64 t16, .int .i64 t17, .int .i64 t18, .int .i64 t19, .int .i64 t20]] #[]) h40 (by kernel_rfl) (by kernel_rfl) rfl (by kernel_rfl) ?_)
      obtain ⟨t63, hg62, h⟩ := of_bind h
      refine RegI.o (OpE.call 26 (by kernel_rfl) 53 #[.agg #[.int .i64 t10, .int .u8 t11, .int .u8 t12, .int .u16 t13, .int .i64 t14, .int .i64 t15, .int .i64 t16, .int .i64 t17, .int .i64 t18, .int .i64 t19, .int .i64 t20]] (by kernel_rfl) ((text_shown_sums_53_ok K _ w41  t10 t11 t12 t13 t14 t15 t16 t17 t18 t19 t20 h40.old' (h40.get 4 rfl) (h40.get 7 rfl) (h40.get 13 rfl) hg62).mono ?_))
      rintro _ w59 ⟨rfl, hb60⟩
      refine ⟨_, rfl, ?_⟩
      have h61 := h40.call hb60
      refine RegI.p 1 [(2, .string t63)] ?_
      refine RegI.d ?_
      refine RunsI.t (.string t63) ?_
      obtain rfl := Option.some.inj h
      exact ⟨rfl, h61.below⟩
     ·skip
      obtain ⟨hc64, h⟩ := of_cond0 h
      refine RegI.o (OpE.run 24 (by kernel_rfl) (run_idxArrK (T := 94) (b := b30) (o := 0) (ix := t16) (k := 3) (len := 4) (s := 1) (by kernel_rfl) (by kernel_rfl) hc64 (by kernel_rfl)) ?_)
      refine RegI.o (OpE.loadBox 25 1 83 b30 3 (.func (.func 54) #[.agg #[.int .i64 t10, .int .u8 t11, .int .u8 t12, .int .u16 t13, .int .i64 t14, .int .i64 t15, .int .i64 t16, .int .i64 t17, .int .i64 t18, .int .i64 t19, .int .i64 t20]] #[]) h40 (by kernel_rfl) (by kernel_rfl) rfl (by kernel_rfl) ?_)
      obtain ⟨t69, hg68, h⟩ := of_bind h
      refine RegI.o (OpE.call 26 (by kernel_rfl) 54 #[.agg #[.int .i64 t10, .int .u8 t11, .int .u8 t12, .int .u16 t13, .int .i64 t14, .int .i64 t15, .int .i64 t16, .int .i64 t17, .int .i64 t18, .int .i64 t19, .int .i64 t20]] (by kernel_rfl) ((text_shown_high_54_ok K _ w41  t10 t11 t12 t13 t14 t15 t16 t17 t18 t19 t20 h40.old' (h40.get 2 rfl) (h40.get 4 rfl) (h40.get 8 rfl) (h40.get 13 rfl) (h40.get 14 rfl) (h40.get 15 rfl) hg68).mono ?_))
      rintro _ w65 ⟨rfl, hb66⟩
      refine ⟨_, rfl, ?_⟩
      have h67 := h40.call hb66
      refine RegI.p 1 [(2, .string t69)] ?_
      refine RegI.d ?_
      refine RunsI.t (.string t69) ?_
      obtain rfl := Option.some.inj h
      exact ⟨rfl, h67.below⟩
  ·skip
   refine RunsI.f 18 false hc45 ?_
   refine RunsI.b false 24 ?_
   refine RunsI.g 1 [.c 25, .c 26, .blk 0, .c 45] ?_
   refine RunsI.r ?_
   refine RegI.p 2 [(3, .pointer (some ⟨b22, 0, none⟩)), (17, .int .i64 p0_0), (27, .bool (p0_0 == 2))] ?_
   refine RegI.d ?_
   rcases of_cond h with ⟨hc70, h⟩ | ⟨hc70, h⟩
   ·skip
    refine RunsI.f 27 true hc70 ?_
    refine RunsI.b true 27 ?_
    refine RunsI.g 1 [.c 28, .c 29, .blk 0, .c 45] ?_
    refine RunsI.r ?_
    refine RegI.o (OpE.loadBox 29 0 92 b22 0 (.agg #[.int .i64 t10, .int .u8 t11, .int .u8 t12, .int .u16 t13, .int .i64 t14, .int .i64 t15, .int .i64 t16, .int .i64 t17, .int .i64 t18, .int .i64 t19, .int .i64 t20]) h40 (by kernel_rfl) (by kernel_rfl) rfl (by kernel_rfl) ?_)
    obtain ⟨t75, hg74, h⟩ := of_bind h
    refine RegI.o (OpE.call 30 (by kernel_rfl) 55 #[.agg #[.int .i64 t10, .int .u8 t11, .int .u8 t12, .int .u16 t13, .int .i64 t14, .int .i64 t15, .int .i64 t16, .int .i64 t17, .int .i64 t18, .int .i64 t19, .int .i64 t20]] (by kernel_rfl) ((text_shown_far_55_ok K _ w41  t10 t11 t12 t13 t14 t15 t16 t17 t18 t19 t20 h40.old' (h40.get 5 rfl) (h40.get 6 rfl) (h40.get 7 rfl) (h40.get 8 rfl) (h40.get 9 rfl) (h40.get 10 rfl) (h40.get 13 rfl) (h40.get 14 rfl) (h40.get 15 rfl) hg74).mono ?_))
    rintro _ w71 ⟨rfl, hb72⟩
    refine ⟨_, rfl, ?_⟩
    have h73 := h40.call hb72
    refine RegI.p 1 [(2, .string t75)] ?_
    refine RegI.d ?_
    refine RunsI.t (.string t75) ?_
    obtain rfl := Option.some.inj h
    exact ⟨rfl, h73.below⟩
   ·skip
    refine RunsI.f 27 false hc70 ?_
    refine RunsI.b false 30 ?_
    refine RunsI.g 2 [.c 32, .c 33, .c 40, .blk 0, .c 45] ?_
    refine RunsI.r ?_
    refine RegI.p 2 [(3, .pointer (some ⟨b22, 0, none⟩)), (17, .int .i64 p0_0), (31, .bool (p0_0 == 1))] ?_
    refine RegI.d ?_
    obtain ⟨j81, hJ82, h⟩ := of_let h
    have hj83 : ∀ (t78 : Bool) (w80 : World), j81 t78 = some r → Holds M0 w0 w80 [box b22 92 [.int .i64 t10, .int .u8 t11, .int .u8 t12, .int .u16 t13, .int .i64 t14, .int .i64 t15, .int .i64 t16, .int .i64 t17, .int .i64 t18, .int .i64 t19, .int .i64 t20], gl 0 (tab_0.flatMap en_0), gl 1 (tab_1.flatMap en_1), gl 2 (tab_2.flatMap en_2), gl 3 (tab_3.flatMap en_3), gl 4 (tab_4.flatMap en_4), gl 5 (tab_5.flatMap en_5), gl 6 (tab_6.flatMap en_6), gl 7 (tab_7.flatMap en_7), gl 8 (tab_8.flatMap en_8), gl 9 (tab_9.flatMap en_9), gl 10 (tab_10.flatMap en_10), gl 12 (tab_12.flatMap en_12), gl 15 (tab_15.flatMap en_15), gl 16 (tab_16.flatMap en_16)] → RunsI F26 [.c 40, .blk 0, .c 45] [(3, .pointer (some ⟨b22, 0, none⟩)), (31, .bool t78)] w80 (text_Show_26.post M0 w0 r) := by
     intro t78 w80 h h79
     rw [hJ82] at h
     clear hJ82
     dsimp only at h
     rcases of_cond h with ⟨hc84, h⟩ | ⟨hc84, h⟩
     ·skip
      refine RunsI.f 31 true hc84 ?_
      refine RunsI.b true 41 ?_
      refine RunsI.g 1 [.c 42, .c 43, .blk 0, .c 45] ?_
      refine RunsI.r ?_
      refine RegI.o (OpE.loadBox 35 0 92 b22 0 (.agg #[.int .i64 t10, .int .u8 t11, .int .u8 t12, .int .u16 t13, .int .i64 t14, .int .i64 t15, .int .i64 t16, .int .i64 t17, .int .i64 t18, .int .i64 t19, .int .i64 t20]) h79 (by kernel_rfl) (by kernel_rfl) rfl (by kernel_rfl) ?_)
      obtain ⟨t89, hg88, h⟩ := of_bind h
      refine RegI.o (OpE.call 36 (by kernel_rfl) 56 #[.agg #[.int .i64 t10, .int .u8 t11, .int .u8 t12, .int .u16 t13, .int .i64 t14, .int .i64 t15, .int .i64 t16, .int .i64 t17, .int .i64 t18, .int .i64 t19, .int .i64 t20]] (by kernel_rfl) ((text_shown_bit_56_ok K _ w80  t10 t11 t12 t13 t14 t15 t16 t17 t18 t19 t20 h79.old' (h79.get 6 rfl) (h79.get 10 rfl) (h79.get 11 rfl) (h79.get 12 rfl) hg88).mono ?_))
      rintro _ w85 ⟨rfl, hb86⟩
      refine ⟨_, rfl, ?_⟩
      have h87 := h79.call hb86
      refine RegI.p 1 [(2, .string t89)] ?_
      refine RegI.d ?_
      refine RunsI.t (.string t89) ?_
      obtain rfl := Option.some.inj h
      exact ⟨rfl, h87.below⟩
     ·skip
      refine RunsI.f 31 false hc84 ?_
      refine RunsI.b false 44 ?_
      refine RunsI.g 1 [.blk 0, .c 45] ?_
      refine RunsI.g 2 [.c 46, .c 47] ?_
      refine RunsI.r ?_
      refine RegI.p 1 [(2, .string (⟨#[63]⟩ : ByteArray))] ?_
      refine RegI.d ?_
      refine RunsI.t (.string (⟨#[63]⟩ : ByteArray)) ?_
      obtain rfl := Option.some.inj h
      exact ⟨rfl, h79.below⟩
    clear hJ82
    rcases of_cond h with ⟨hc76, h⟩ | ⟨hc76, h⟩
    ·skip
     refine RunsI.f 31 true hc76 ?_
     refine RunsI.b true 34 ?_
     refine RunsI.g 1 [.c 40, .blk 0, .c 45] ?_
     refine RunsI.l [3, 31] [(3, .pointer (some ⟨b22, 0, none⟩)), (31, .bool true)] ?_
     exact hj83 true w41 h (h40.pick [0, 2, 3, 4, 5, 6, 7, 8, 9, 10, 11, 12, 13, 14, 15] (by decide))
    ·skip
     refine RunsI.f 31 false hc76 ?_
     refine RunsI.b false 35 ?_
     refine RunsI.g 1 [.c 36, .c 37, .c 40, .blk 0, .c 45] ?_
     refine RunsI.r ?_
     refine RegI.p 2 [(3, .pointer (some ⟨b22, 0, none⟩)), (17, .int .i64 p0_0), (31, .bool (p0_0 == 5))] ?_
     refine RegI.d ?_
     rcases of_cond h with ⟨hc77, h⟩ | ⟨hc77, h⟩
     ·skip
      refine RunsI.f 31 true hc77 ?_
      refine RunsI.b true 38 ?_
      refine RunsI.g 1 [.c 40, .blk 0, .c 45] ?_
      refine RunsI.l [3, 31] [(3, .pointer (some ⟨b22, 0, none⟩)), (31, .bool true)] ?_
      exact hj83 true w41 h (h40.pick [0, 2, 3, 4, 5, 6, 7, 8, 9, 10, 11, 12, 13, 14, 15] (by decide))
     ·skip
      refine RunsI.f 31 false hc77 ?_
      refine RunsI.b false 39 ?_
      refine RunsI.r ?_
      refine RegI.p 2 [(3, .pointer (some ⟨b22, 0, none⟩)), (31, .bool (p0_0 == 6))] ?_
      refine RegI.d ?_
      refine RunsI.l [3, 31] [(3, .pointer (some ⟨b22, 0, none⟩)), (31, .bool (p0_0 == 6))] ?_
      exact hj83 (p0_0 == 6) w41 h (h40.pick [0, 2, 3, 4, 5, 6, 7, 8, 9, 10, 11, 12, 13, 14, 15] (by decide))
 clear hJ43
 rcases of_cond h with ⟨hc37, h⟩ | ⟨hc37, h⟩
 ·skip
  refine RunsI.f 18 true hc37 ?_
  refine RunsI.b true 14 ?_
  refine RunsI.g 1 [.c 20, .blk 0, .c 45] ?_
  refine RunsI.l [3, 4, 17, 18] [(3, .pointer (some ⟨b22, 0, none⟩)), (4, .pointer (some ⟨b30, 0, none⟩)), (17, .int .i64 p0_0), (18, .bool true)] ?_
  exact hj44 true w34 h (h35.pick [15, 16, 0, 1, 2, 3, 4, 5, 6, 7, 8, 9, 10, 11, 12, 13] (by decide))
 ·skip
  refine RunsI.f 18 false hc37 ?_
  refine RunsI.b false 15 ?_
  refine RunsI.g 1 [.c 16, .c 17, .c 20, .blk 0, .c 45] ?_
  refine RunsI.r ?_
  refine RegI.p 2 [(3, .pointer (some ⟨b22, 0, none⟩)), (4, .pointer (some ⟨b30, 0, none⟩)), (17, .int .i64 p0_0), (18, .bool (p0_0 == 3))] ?_
  refine RegI.d ?_
  rcases of_cond h with ⟨hc38, h⟩ | ⟨hc38, h⟩
  ·skip
   refine RunsI.f 18 true hc38 ?_
   refine RunsI.b true 18 ?_
   refine RunsI.g 1 [.c 20, .blk 0, .c 45] ?_
   refine RunsI.l [3, 4, 17, 18] [(3, .pointer (some ⟨b22, 0, none⟩)), (4, .pointer (some ⟨b30, 0, none⟩)), (17, .int .i64 p0_0), (18, .bool true)] ?_
   exact hj44 true w34 h (h35.pick [15, 16, 0, 1, 2, 3, 4, 5, 6, 7, 8, 9, 10, 11, 12, 13] (by decide))
  ·skip
   refine RunsI.f 18 false hc38 ?_
   refine RunsI.b false 19 ?_
   refine RunsI.r ?_
   refine RegI.p 2 [(3, .pointer (some ⟨b22, 0, none⟩)), (4, .pointer (some ⟨b30, 0, none⟩)), (17, .int .i64 p0_0), (18, .bool (p0_0 == 4))] ?_
   refine RegI.d ?_
   refine RunsI.l [3, 4, 17, 18] [(3, .pointer (some ⟨b22, 0, none⟩)), (4, .pointer (some ⟨b30, 0, none⟩)), (17, .int .i64 p0_0), (18, .bool (p0_0 == 4))] ?_
   exact hj44 (p0_0 == 4) w34 h (h35.pick [15, 16, 0, 1, 2, 3, 4, 5, 6, 7, 8, 9, 10, 11, 12, 13] (by decide))
end

/-! ### charabanc/bits.Word (function 36) -/
section
def bits_Word_36.post (M0 : Nat → Prop) (w0 : World) (r : Int) : Ending → World → Prop := fun e w => e = .returned (.int .u16 r) ∧ Below w0.heap.size w0 w
def bits_Word_36.f (K : Nat) (p0 : Int) (p1 : Int) : Option Int := some (bor .u16 (IntKind.wrap .u16 ((IntKind.wrap .u16 p0) * 2 ^ 8)) (IntKind.wrap .u16 p1))
set_option maxRecDepth 100000 in
theorem bits_Word_36_ok (K : Nat) (M0 : Nat → Prop) (w0 : World) (p0 : Int) (p1 : Int) (ho : ∀ b, M0 b → b < w0.heap.size) {r : Int} (h : bits_Word_36.f K p0 p1 = some r) :
  Calls Tryd.prog 36 #[.int .u8 p0, .int .u8 p1] w0 (bits_Word_36.post M0 w0 r) := by
 unfold bits_Word_36.f at h
 have h0 : Holds M0 w0 w0 [] := Holds.start ho
 have h0 : Holds M0 w0 w0 [] := h0
 refine calls_of F36 rfl [.int .u8 p0, .int .u8 p1] (by kernel_rfl) ?_
 refine RunsI.g 1 [.c 1, .c 2] ?_
 refine RunsI.r ?_
 refine RegI.p 1 [(0, .int .u8 p0), (1, .int .u8 p1)] ?_
 refine RegI.d ?_
 refine RunsI.g 1 [.c 3, .c 4] ?_
 refine RunsI.r ?_
 refine RegI.p 7 [(4, .int .u16 (bor .u16 (IntKind.wrap .u16 ((IntKind.wrap .u16 p0) * 2 ^ 8)) (IntKind.wrap .u16 p1)))] ?_
 refine RegI.d ?_
 refine RunsI.t (.int .u16 (bor .u16 (IntKind.wrap .u16 ((IntKind.wrap .u16 p0) * 2 ^ 8)) (IntKind.wrap .u16 p1))) ?_
 obtain rfl := Option.some.inj h
 exact ⟨rfl, h0.below⟩
end

/-! ### charabanc/decode.plain (function 170) -/
section
def decode_plain_170.post (M0 : Nat → Prop) (w0 : World) (r : Int) : Ending → World → Prop := fun e w => e = .returned (.int .i64 r) ∧ Below w0.heap.size w0 w
def decode_plain_170.f (K : Nat) (p0 : Int) (p1 : Int) (p2 : Int) : Option Int := Let (fun (t24 : Bool) => cond t24 (some 2) (Let (fun (t34 : Bool) => cond t34 (some 2) (cond ((p0, p2) == (0, 0)) (cond (inR p1 8) (some (rdD ([0, 0, 1, 1, 1, 1, 1, 1] : List Int) p1)) none) (cond ((p0, p2) == (0, 2)) (cond (inR p1 8) (some (rdD ([0, 0, 0, 0, 2, 2, 2, 2] : List Int) p1)) none) (cond ((p0, p2) == (0, 6)) (cond (inR p1 8) (some (rdD ([1, 1, 1, 1, 1, 1, 1, 1] : List Int) p1)) none) (cond ((p0, p2) == (3, 2)) (cond (inR p1 8) (some (rdD ([2, 2, 2, 2, 2, 2, 2, 2] : List Int) p1)) none) (cond ((p0, p2) == (3, 3)) (cond (inR p1 8) (some (rdD ([2, 0, 1, 1, 0, 0, 0, 0] : List Int) p1)) none) (cond ((p0, p2) == (3, 4)) (cond (inR p1 8) (some (rdD ([2, 2, 2, 2, 2, 2, 2, 2] : List Int) p1)) none) (cond ((p0, p2) == (3, 6)) (cond (inR p1 8) (some (rdD ([1, 1, 1, 1, 1, 1, 1, 1] : List Int) p1)) none) (cond (inR p1 8) (some (rdD ([0, 0, 0, 0, 0, 0, 0, 0] : List Int) p1)) none))))))))) (fun j37 => cond (p0 == 3) (cond (p2 == 5) (cond ((band .i64 p1 1) == 1) (j37 ((Int.fdiv p1 (2 ^ 1)) == 0)) (j37 false)) (j37 false)) (j37 false)))) (fun j27 => cond (p0 == 0) (cond (p2 == 1) (j27 ((band .i64 p1 1) == 0)) (j27 false)) (j27 false))
set_option maxRecDepth 100000 in
theorem decode_plain_170_ok (K : Nat) (M0 : Nat → Prop) (w0 : World) (p0 : Int) (p1 : Int) (p2 : Int) (ho : ∀ b, M0 b → b < w0.heap.size) {r : Int} (h : decode_plain_170.f K p0 p1 p2 = some r) :
  Calls Tryd.prog 170 #[.int .i64 p0, .int .i64 p1, .int .i64 p2] w0 (decode_plain_170.post M0 w0 r) := by
 unfold decode_plain_170.f at h
 have h0 : Holds M0 w0 w0 [] := Holds.start ho
 have h0 : Holds M0 w0 w0 [] := h0
 refine calls_of F170 rfl [.int .i64 p0, .int .i64 p1, .int .i64 p2] (by kernel_rfl) ?_
 refine RunsI.g 1 [.c 1, .c 2] ?_
 refine RunsI.r ?_
 refine RegI.p 1 [(0, .int .i64 p0), (1, .int .i64 p1), (2, .int .i64 p2)] ?_
 refine RegI.d ?_
 refine RunsI.g 1 [.c 3, .c 4] ?_
 refine RunsI.r ?_
 refine RegI.p 6 [(0, .int .i64 p0), (1, .int .i64 p1), (2, .int .i64 p2), (7, .int .i64 (Int.fdiv p1 (2 ^ 1))), (8, .int .i64 (band .i64 p1 1))] ?_
 refine RegI.d ?_
 refine RunsI.g 1 [.c 5, .c 6] ?_
 refine RunsI.any 24 (by kernel_rfl) (by kernel_rfl) (by kernel_rfl) (Kp ([] : List Nat) (World.drew w0)) ?_
 have h2 := h0.drew
 generalize World.drew w0 = w1 at h2 ⊢
 have hS3 := Kp.refl ([] : List Nat) w1
 refine AnyE.pure 1 15 (.agg #[.int .i64 0, .int .i64 0]) (by kernel_rfl) hS3 (fun _ => by kernel_rfl) ?_
 refine AnyE.pure 2 16 (.agg (List.flatMap (fun (x : Int) => ([.int .i64 x] : List Value)) ([0, 0, 1, 1, 1, 1, 1, 1] : List Int)).toArray) (by kernel_rfl) hS3 (fun _ => by kernel_rfl) ?_
 refine AnyE.pure 4 17 (.agg #[.int .i64 0, .int .i64 2]) (by kernel_rfl) hS3 (fun _ => by kernel_rfl) ?_
 refine AnyE.pure 5 18 (.agg (List.flatMap (fun (x : Int) => ([.int .i64 x] : List Value)) ([0, 0, 0, 0, 2, 2, 2, 2] : List Int)).toArray) (by kernel_rfl) hS3 (fun _ => by kernel_rfl) ?_
 refine AnyE.pure 7 19 (.agg #[.int .i64 0, .int .i64 6]) (by kernel_rfl) hS3 (fun _ => by kernel_rfl) ?_
 refine AnyE.pure 8 20 (.agg (List.flatMap (fun (x : Int) => ([.int .i64 x] : List Value)) ([1, 1, 1, 1, 1, 1, 1, 1] : List Int)).toArray) (by kernel_rfl) hS3 (fun _ => by kernel_rfl) ?_
 refine AnyE.pure 10 21 (.agg #[.int .i64 3, .int .i64 2]) (by kernel_rfl) hS3 (fun _ => by kernel_rfl) ?_
 refine AnyE.pure 11 22 (.agg (List.flatMap (fun (x : Int) => ([.int .i64 x] : List Value)) ([2, 2, 2, 2, 2, 2, 2, 2] : List Int)).toArray) (by kernel_rfl) hS3 (fun _ => by kernel_rfl) ?_
 refine AnyE.pure 13 23 (.agg #[.int .i64 3, .int .i64 3]) (by kernel_rfl) hS3 (fun _ => by kernel_rfl) ?_
 refine AnyE.pure 14 24 (.agg (List.flatMap (fun (x : Int) => ([.int .i64 x] : List Value)) ([2, 0, 1, 1, 0, 0, 0, 0] : List Int)).toArray) (by kernel_rfl) hS3 (fun _ => by kernel_rfl) ?_
 refine AnyE.pure 16 25 (.agg #[.int .i64 3, .int .i64 4]) (by kernel_rfl) hS3 (fun _ => by kernel_rfl) ?_
 refine AnyE.pure 17 26 (.agg (List.flatMap (fun (x : Int) => ([.int .i64 x] : List Value)) ([2, 2, 2, 2, 2, 2, 2, 2] : List Int)).toArray) (by kernel_rfl) hS3 (fun _ => by kernel_rfl) ?_
 refine AnyE.pure 19 27 (.agg #[.int .i64 3, .int .i64 6]) (by kernel_rfl) hS3 (fun _ => by kernel_rfl) ?_
 refine AnyE.pure 20 28 (.agg (List.flatMap (fun (x : Int) => ([.int .i64 x] : List Value)) ([1, 1, 1, 1, 1, 1, 1, 1] : List Int)).toArray) (by kernel_rfl) hS3 (fun _ => by kernel_rfl) ?_
 refine AnyE.one 0 (by kernel_rfl) (fun w5 hu6 => ?_)
 have h7 := h2.call hu6
 have hS8 := hS3.up hu6
 refine OpE.makeMap 14 (ekP .i64) (fun (v : Value) => v) h7 (by kernel_rfl) (by kernel_rfl) ?_
 intro w9 b10 h11 hb12 hn13
 have hn14 := Nat.le_trans hS8.1 hn13
 have hS15 := hS8.up hb12
 refine ⟨hS15, ?_⟩
 refine AnyE.stores (ek := (ekP .i64)) (ev := (fun (v : Value) => v)) 0 2 204 202 203 b10 ([] : List ((Int × Int) × Value)) [(3, (0, 0), .agg (List.flatMap (fun (x : Int) => ([.int .i64 x] : List Value)) ([0, 0, 1, 1, 1, 1, 1, 1] : List Int)).toArray), (6, (0, 2), .agg (List.flatMap (fun (x : Int) => ([.int .i64 x] : List Value)) ([0, 0, 0, 0, 2, 2, 2, 2] : List Int)).toArray), (9, (0, 6), .agg (List.flatMap (fun (x : Int) => ([.int .i64 x] : List Value)) ([1, 1, 1, 1, 1, 1, 1, 1] : List Int)).toArray), (12, (3, 2), .agg (List.flatMap (fun (x : Int) => ([.int .i64 x] : List Value)) ([2, 2, 2, 2, 2, 2, 2, 2] : List Int)).toArray), (15, (3, 3), .agg (List.flatMap (fun (x : Int) => ([.int .i64 x] : List Value)) ([2, 0, 1, 1, 0, 0, 0, 0] : List Int)).toArray), (18, (3, 4), .agg (List.flatMap (fun (x : Int) => ([.int .i64 x] : List Value)) ([2, 2, 2, 2, 2, 2, 2, 2] : List Int)).toArray), (21, (3, 6), .agg (List.flatMap (fun (x : Int) => ([.int .i64 x] : List Value)) ([1, 1, 1, 1, 1, 1, 1, 1] : List Int)).toArray)] h11 rfl hS15 (fun x hx => .inr (by rw [List.mem_singleton.1 hx]; exact hn14)) (by kernel_rfl) (KeyOk.pair .i64 (E := 3) (q := .i64) (by kernel_rfl) (by kernel_rfl) (by kernel_rfl)) (by kernel_rfl) (by kernel_rfl) (by decide) (by decide) (by kernel_rfl) (by kernel_rfl) [((0, 0), .agg (List.flatMap (fun (x : Int) => ([.int .i64 x] : List Value)) ([0, 0, 1, 1, 1, 1, 1, 1] : List Int)).toArray), ((0, 2), .agg (List.flatMap (fun (x : Int) => ([.int .i64 x] : List Value)) ([0, 0, 0, 0, 2, 2, 2, 2] : List Int)).toArray), ((0, 6), .agg (List.flatMap (fun (x : Int) => ([.int .i64 x] : List Value)) ([1, 1, 1, 1, 1, 1, 1, 1] : List Int)).toArray), ((3, 2), .agg (List.flatMap (fun (x : Int) => ([.int .i64 x] : List Value)) ([2, 2, 2, 2, 2, 2, 2, 2] : List Int)).toArray), ((3, 3), .agg (List.flatMap (fun (x : Int) => ([.int .i64 x] : List Value)) ([2, 0, 1, 1, 0, 0, 0, 0] : List Int)).toArray), ((3, 4), .agg (List.flatMap (fun (x : Int) => ([.int .i64 x] : List Value)) ([2, 2, 2, 2, 2, 2, 2, 2] : List Int)).toArray), ((3, 6), .agg (List.flatMap (fun (x : Int) => ([.int .i64 x] : List Value)) ([1, 1, 1, 1, 1, 1, 1, 1] : List Int)).toArray)] (by kernel_rfl) [3, 6, 9, 12, 15, 18, 21, 0, 20, 19, 17, 16, 14, 13, 11, 10, 8, 7, 5, 4, 2, 1] (by kernel_rfl) ?_
 intro w16 h17 hS18
 refine AnyE.pure 22 29 (.map (some b10)) (by kernel_rfl) hS18 (fun _ => by kernel_rfl) ?_
 refine AnyE.pure 23 9 (.map (some b10)) (by kernel_rfl) hS18 (fun _ => by kernel_rfl) ?_
 refine AnyE.done (by kernel_rfl) (fun w19 hu20 => ?_)
 have h21 := h17.call hu20
 refine RunsI.l [0, 1, 2, 7, 8, 9] [(0, .int .i64 p0), (1, .int .i64 p1), (2, .int .i64 p2), (7, .int .i64 (Int.fdiv p1 (2 ^ 1))), (8, .int .i64 (band .i64 p1 1)), (9, .map (some b10))] ?_
 refine RunsI.g 3 [.c 9, .c 10, .blk 0, .c 21] ?_
 refine RunsI.r ?_
 refine RegI.p 3 [(0, .int .i64 p0), (1, .int .i64 p1), (2, .int .i64 p2), (7, .int .i64 (Int.fdiv p1 (2 ^ 1))), (8, .int .i64 (band .i64 p1 1)), (9, .map (some b10)), (33, .bool (p0 == 0))] ?_
 obtain ⟨j27, hJ28, h⟩ := of_let h
 have hj29 : ∀ (t24 : Bool) (w26 : World), j27 t24 = some r → Holds M0 w0 w26 [mp (ekP .i64) (fun (v : Value) => v) b10 [((0, 0), .agg (List.flatMap (fun (x : Int) => ([.int .i64 x] : List Value)) ([0, 0, 1, 1, 1, 1, 1, 1] : List Int)).toArray), ((0, 2), .agg (List.flatMap (fun (x : Int) => ([.int .i64 x] : List Value)) ([0, 0, 0, 0, 2, 2, 2, 2] : List Int)).toArray), ((0, 6), .agg (List.flatMap (fun (x : Int) => ([.int .i64 x] : List Value)) ([1, 1, 1, 1, 1, 1, 1, 1] : List Int)).toArray), ((3, 2), .agg (List.flatMap (fun (x : Int) => ([.int .i64 x] : List Value)) ([2, 2, 2, 2, 2, 2, 2, 2] : List Int)).toArray), ((3, 3), .agg (List.flatMap (fun (x : Int) => ([.int .i64 x] : List Value)) ([2, 0, 1, 1, 0, 0, 0, 0] : List Int)).toArray), ((3, 4), .agg (List.flatMap (fun (x : Int) => ([.int .i64 x] : List Value)) ([2, 2, 2, 2, 2, 2, 2, 2] : List Int)).toArray), ((3, 6), .agg (List.flatMap (fun (x : Int) => ([.int .i64 x] : List Value)) ([1, 1, 1, 1, 1, 1, 1, 1] : List Int)).toArray)]] → RegI F170 9 [.c 10, .blk 0, .c 21] 11 [(0, .int .i64 p0), (1, .int .i64 p1), (2, .int .i64 p2), (7, .int .i64 (Int.fdiv p1 (2 ^ 1))), (8, .int .i64 (band .i64 p1 1)), (9, .map (some b10)), (30, .bool t24)] w26 (decode_plain_170.post M0 w0 r) := by
  intro t24 w26 h h25
  rw [hJ28] at h
  clear hJ28
  dsimp only at h
  refine RegI.d ?_
  rcases of_cond h with ⟨hc30, h⟩ | ⟨hc30, h⟩
  ·skip
   refine RunsI.f 30 true hc30 ?_
   refine RunsI.b true 11 ?_
   refine RunsI.g 1 [.c 12, .c 13, .blk 0, .c 21] ?_
   refine RunsI.r ?_
   refine RegI.p 1 [(6, .int .i64 2)] ?_
   refine RegI.d ?_
   refine RunsI.t (.int .i64 2) ?_
   obtain rfl := Option.some.inj h
   exact ⟨rfl, h25.below⟩
  ·skip
   refine RunsI.f 30 false hc30 ?_
   refine RunsI.b false 14 ?_
   refine RunsI.g 1 [.c 15, .c 16, .blk 0, .c 21] ?_
   refine RunsI.r ?_
   refine RegI.p 3 [(0, .int .i64 p0), (1, .int .i64 p1), (2, .int .i64 p2), (7, .int .i64 (Int.fdiv p1 (2 ^ 1))), (8, .int .i64 (band .i64 p1 1)), (9, .map (some b10)), (44, .bool (p0 == 3))] ?_
   obtain ⟨j37, hJ38, h⟩ := of_let h
   have hj39 : ∀ (t34 : Bool) (w36 : World), j37 t34 = some r → Holds M0 w0 w36 [mp (ekP .i64) (fun (v : Value) => v) b10 [((0, 0), .agg (List.flatMap (fun (x : Int) => ([.int .i64 x] : List Value)) ([0, 0, 1, 1, 1, 1, 1, 1] : List Int)).toArray), ((0, 2), .agg (List.flatMap (fun (x : Int) => ([.int .i64 x] : List Value)) ([0, 0, 0, 0, 2, 2, 2, 2] : List Int)).toArray), ((0, 6), .agg (List.flatMap (fun (x : Int) => ([.int .i64 x] : List Value)) ([1, 1, 1, 1, 1, 1, 1, 1] : List Int)).toArray), ((3, 2), .agg (List.flatMap (fun (x : Int) => ([.int .i64 x] : List Value)) ([2, 2, 2, 2, 2, 2, 2, 2] : List Int)).toArray), ((3, 3), .agg (List.flatMap (fun (x : Int) => ([.int .i64 x] : List Value)) ([2, 0, 1, 1, 0, 0, 0, 0] : List Int)).toArray), ((3, 4), .agg (List.flatMap (fun (x : Int) => ([.int .i64 x] : List Value)) ([2, 2, 2, 2, 2, 2, 2, 2] : List Int)).toArray), ((3, 6), .agg (List.flatMap (fun (x : Int) => ([.int .i64 x] : List Value)) ([1, 1, 1, 1, 1, 1, 1, 1] : List Int)).toArray)]] → RegI F170 15 [.c 16, .blk 0, .c 21] 15 [(0, .int .i64 p0), (1, .int .i64 p1), (2, .int .i64 p2), (9, .map (some b10)), (41, .bool t34)] w36 (decode_plain_170.post M0 w0 r) := by
    intro t34 w36 h h35
    rw [hJ38] at h
    clear hJ38
    dsimp only at h
    refine RegI.d ?_
    rcases of_cond h with ⟨hc40, h⟩ | ⟨hc40, h⟩
    ·skip
     refine RunsI.f 41 true hc40 ?_
     refine RunsI.b true 17 ?_
     refine RunsI.g 1 [.c 18, .c 19, .blk 0, .c 21] ?_
     refine RunsI.r ?_
     refine RegI.p 1 [(6, .int .i64 2)] ?_
     refine RegI.d ?_
     refine RunsI.t (.int .i64 2) ?_
     obtain rfl := Option.some.inj h
     exact ⟨rfl, h35.below⟩
    ·skip
     refine RunsI.f 41 false hc40 ?_
     refine RunsI.b false 20 ?_
     refine RunsI.g 1 [.blk 0, .c 21] ?_
     refine RunsI.g 2 [.c 22, .c 23] ?_
     refine RunsI.r ?_
     refine RegI.p 4 [(1, .int .i64 p1), (56, .map (some b10)), (59, .agg #[.int .i64 p0, .int .i64 p2])] ?_
     rcases of_cond h with ⟨hc41, h⟩ | ⟨hc41, h⟩
     ·skip
      refine RegI.o (OpE.lookup (ek := (ekP .i64)) (ev := (fun (v : Value) => v)) (zv := .agg #[.int .i64 0, .int .i64 0, .int .i64 0, .int .i64 0, .int .i64 0, .int .i64 0, .int .i64 0, .int .i64 0]) 60 0 204 202 203 (p0, p2) (.agg (List.flatMap (fun (x : Int) => ([.int .i64 x] : List Value)) ([0, 0, 1, 1, 1, 1, 1, 1] : List Int)).toArray) false h35 (by kernel_rfl) rfl (by kernel_rfl) rfl (by kernel_rfl) (KeyOk.pair .i64 (E := 3) (q := .i64) (by kernel_rfl) (by kernel_rfl) (by kernel_rfl)) (fun _ => by kernel_rfl) (by simp only [findK, hc41, cond_true, cond_false, Option.map_some, Option.map_none, Option.getD_some, Option.getD_none, Option.isSome_some, Option.isSome_none]) ?_)
      refine RegI.p 1 [(60, .agg (List.flatMap (fun (x : Int) => ([.int .i64 x] : List Value)) ([0, 0, 1, 1, 1, 1, 1, 1] : List Int)).toArray), (61, .int .i64 p1)] ?_
      obtain ⟨hc42, h⟩ := of_cond0 h
      refine RegI.o (OpE.run 62 (by kernel_rfl) (run_indexTab (T0 := 203) (en := (fun (x : Int) => ([.int .i64 x] : List Value))) (tab := ([0, 0, 1, 1, 1, 1, 1, 1] : List Int)) (len := 8) (sz := 1) (j := p1) (v := .int .i64 (rdD ([0, 0, 1, 1, 1, 1, 1, 1] : List Int) p1)) (fun _ => rfl) (by kernel_rfl) (by kernel_rfl) rfl hc42 (fun _ => by kernel_rfl)) ?_)
      refine RegI.p 1 [(6, .int .i64 (rdD ([0, 0, 1, 1, 1, 1, 1, 1] : List Int) p1))] ?_
      refine RegI.d ?_
      refine RunsI.t (.int .i64 (rdD ([0, 0, 1, 1, 1, 1, 1, 1] : List Int) p1)) ?_
      obtain rfl := Option.some.inj h
      exact ⟨rfl, h35.below⟩
     ·skip
      rcases of_cond h with ⟨hc43, h⟩ | ⟨hc43, h⟩
      ·skip
       refine RegI.o (OpE.lookup (ek := (ekP .i64)) (ev := (fun (v : Value) => v)) (zv := .agg #[.int .i64 0, .int .i64 0, .int .i64 0, .int .i64 0, .int .i64 0, .int .i64 0, .int .i64 0, .int .i64 0]) 60 0 204 202 203 (p0, p2) (.agg (List.flatMap (fun (x : Int) => ([.int .i64 x] : List Value)) ([0, 0, 0, 0, 2, 2, 2, 2] : List Int)).toArray) false h35 (by kernel_rfl) rfl (by kernel_rfl) rfl (by kernel_rfl) (KeyOk.pair .i64 (E := 3) (q := .i64) (by kernel_rfl) (by kernel_rfl) (by kernel_rfl)) (fun _ => by kernel_rfl) (by simp only [findK, hc41, hc43, cond_true, cond_false, Option.map_some, Option.map_none, Option.getD_some, Option.getD_none, Option.isSome_some, Option.isSome_none]) ?_)
       refine RegI.p 1 [(60, .agg (List.flatMap (fun (x : Int) => ([.int .i64 x] : List Value)) ([0, 0, 0, 0, 2, 2, 2, 2] : List Int)).toArray), (61, .int .i64 p1)] ?_
       obtain ⟨hc44, h⟩ := of_cond0 h
       refine RegI.o (OpE.run 62 (by kernel_rfl) (run_indexTab (T0 := 203) (en := (fun (x : Int) => ([.int .i64 x] : List Value))) (tab := ([0, 0, 0, 0, 2, 2, 2, 2] : List Int)) (len := 8) (sz := 1) (j := p1) (v := .int .i64 (rdD ([0, 0, 0, 0, 2, 2, 2, 2] : List Int) p1)) (fun _ => rfl) (by kernel_rfl) (by kernel_rfl) rfl hc44 (fun _ => by kernel_rfl)) ?_)
       refine RegI.p 1 [(6, .int .i64 (rdD ([0, 0, 0, 0, 2, 2, 2, 2] : List Int) p1))] ?_
       refine RegI.d ?_
       refine RunsI.t (.int .i64 (rdD ([0, 0, 0, 0, 2, 2, 2, 2] : List Int) p1)) ?_
       obtain rfl := Option.some.inj h
       exact ⟨rfl, h35.below⟩
      ·skip
       rcases of_cond h with ⟨hc45, h⟩ | ⟨hc45, h⟩
       ·skip
        refine RegI.o (OpE.lookup (ek := (ekP .i64)) (ev := (fun (v : Value) => v)) (zv := .agg #[.int .i64 0, .int .i64 0, .int .i64 0, .int .i64 0, .int .i64 0, .int .i64 0, .int .i64 0, .int .i64 0]) 60 0 204 202 203 (p0, p2) (.agg (List.flatMap (fun (x : Int) => ([.int .i64 x] : List Value)) ([1, 1, 1, 1, 1, 1, 1, 1] : List Int)).toArray) false h35 (by kernel_rfl) rfl (by kernel_rfl) rfl (by kernel_rfl) (KeyOk.pair .i64 (E := 3) (q := .i64) (by kernel_rfl) (by kernel_rfl) (by kernel_rfl)) (fun _ => by kernel_rfl) (by simp only [findK, hc41, hc43, hc45, cond_true, cond_false, Option.map_some, Option.map_none, Option.getD_some, Option.getD_none, Option.isSome_some, Option.isSome_none]) ?_)
        refine RegI.p 1 [(60, .agg (List.flatMap (fun (x : Int) => ([.int .i64 x] : List Value)) ([1, 1, 1, 1, 1, 1, 1, 1] : List Int)).toArray), (61, .int .i64 p1)] ?_
        obtain ⟨hc46, h⟩ := of_cond0 h
        refine RegI.o (OpE.run 62 (by kernel_rfl) (run_indexTab (T0 := 203) (en := (fun (x : Int) => ([.int .i64 x] : List Value))) (tab := ([1, 1, 1, 1, 1, 1, 1, 1] : List Int)) (len := 8) (sz := 1) (j := p1) (v := .int .i64 (rdD ([1, 1, 1, 1, 1, 1, 1, 1] : List Int) p1)) (fun _ => rfl) (by kernel_rfl) (by kernel_rfl) rfl hc46 (fun _ => by kernel_rfl)) ?_)
        refine RegI.p 1 [(6, .int .i64 (rdD ([1, 1, 1, 1, 1, 1, 1, 1] : List Int) p1))] ?_
        refine RegI.d ?_
        refine RunsI.t (.int .i64 (rdD ([1, 1, 1, 1, 1, 1, 1, 1] : List Int) p1)) ?_
        obtain rfl := Option.some.inj h
        exact ⟨rfl, h35.below⟩
       ·skip
        rcases of_cond h with ⟨hc47, h⟩ | ⟨hc47, h⟩
        ·skip
         refine RegI.o (OpE.lookup (ek := (ekP .i64)) (ev := (fun (v : Value) => v)) (zv := .agg #[.int .i64 0, .int .i64 0, .int .i64 0, .int .i64 0, .int .i64 0, .int .i64 0, .int .i64 0, .int .i64 0]) 60 0 204 202 203 (p0, p2) (.agg (List.flatMap (fun (x : Int) => ([.int .i64 x] : List Value)) ([2, 2, 2, 2, 2, 2, 2, 2] : List Int)).toArray) false h35 (by kernel_rfl) rfl (by kernel_rfl) rfl (by kernel_rfl) (KeyOk.pair .i64 (E := 3) (q := .i64) (by kernel_rfl) (by kernel_rfl) (by kernel_rfl)) (fun _ => by kernel_rfl) (by simp only [findK, hc41, hc43, hc45, hc47, cond_true, cond_false, Option.map_some, Option.map_none, Option.getD_some, Option.getD_none, Option.isSome_some, Option.isSome_none]) ?_)
         refine RegI.p 1 [(60, .agg (List.flatMap (fun (x : Int) => ([.int .i64 x] : List Value)) ([2, 2, 2, 2, 2, 2, 2, 2] : List Int)).toArray), (61, .int .i64 p1)] ?_
         obtain ⟨hc48, h⟩ := of_cond0 h
         refine RegI.o (OpE.run 62 (by kernel_rfl) (run_indexTab (T0 := 203) (en := (fun (x : Int) => ([.int .i64 x] : List Value))) (tab := ([2, 2, 2, 2, 2, 2, 2, 2] : List Int)) (len := 8) (sz := 1) (j := p1) (v := .int .i64 (rdD ([2, 2, 2, 2, 2, 2, 2, 2] : List Int) p1)) (fun _ => rfl) (by kernel_rfl) (by kernel_rfl) rfl hc48 (fun _ => by kernel_rfl)) ?_)
         refine RegI.p 1 [(6, .int .i64 (rdD ([2, 2, 2, 2, 2, 2, 2, 2] : List Int) p1))] ?_
         refine RegI.d ?_
         refine RunsI.t (.int .i64 (rdD ([2, 2, 2, 2, 2, 2, 2, 2] : List Int) p1)) ?_
         obtain rfl := Option.some.inj h
         exact ⟨rfl, h35.below⟩
        ·skip
         rcases of_cond h with ⟨hc49, h⟩ | ⟨hc49, h⟩
         ·skip
          refine RegI.o (OpE.lookup (ek := (ekP .i64)) (ev := (fun (v : Value) => v)) (zv := .agg #[.int .i64 0, .int .i64 0, .int .i64 0, .int .i64 0, .int .i64 0, .int .i64 0, .int .i64 0, .int .i64 0]) 60 0 204 202 203 (p0, p2) (.agg (List.flatMap (fun (x : Int) => ([.int .i64 x] : List Value)) ([2, 0, 1, 1, 0, 0, 0, 0] : List Int)).toArray) false h35 (by kernel_rfl) rfl (by kernel_rfl) rfl (by kernel_rfl) (KeyOk.pair .i64 (E := 3) (q := .i64) (by kernel_rfl) (by kernel_rfl) (by kernel_rfl)) (fun _ => by kernel_rfl) (by simp only [findK, hc41, hc43, hc45, hc47, hc49, cond_true, cond_false, Option.map_some, Option.map_none, Option.getD_some, Option.getD_none, Option.isSome_some, Option.isSome_none]) ?_)
          refine RegI.p 1 [(60, .agg (List.flatMap (fun (x : Int) => ([.int .i64 x] : List Value)) ([2, 0, 1, 1, 0, 0, 0, 0] : List Int)).toArray), (61, .int .i64 p1)] ?_
          obtain ⟨hc50, h⟩ := of_cond0 h
          refine RegI.o (OpE.run 62 (by kernel_rfl) (run_indexTab (T0 := 203) (en := (fun (x : Int) => ([.int .i64 x] : List Value))) (tab := ([2, 0, 1, 1, 0, 0, 0, 0] : List Int)) (len := 8) (sz := 1) (j := p1) (v := .int .i64 (rdD ([2, 0, 1, 1, 0, 0, 0, 0] : List Int) p1)) (fun _ => rfl) (by kernel_rfl) (by kernel_rfl) rfl hc50 (fun _ => by kernel_rfl)) ?_)
          refine RegI.p 1 [(6, .int .i64 (rdD ([2, 0, 1, 1, 0, 0, 0, 0] : List Int) p1))] ?_
          refine RegI.d ?_
          refine RunsI.t (.int .i64 (rdD ([2, 0, 1, 1, 0, 0, 0, 0] : List Int) p1)) ?_
          obtain rfl := Option.some.inj h
          exact ⟨rfl, h35.below⟩
         ·skip
          rcases of_cond h with ⟨hc51, h⟩ | ⟨hc51, h⟩
          ·skip
           refine RegI.o (OpE.lookup (ek := (ekP .i64)) (ev := (fun (v : Value) => v)) (zv := .agg #[.int .i64 0, .int .i64 0, .int .i64 0, .int .i64 0, .int .i64 0, .int .i64 0, .int .i64 0, .int .i64 0]) 60 0 204 202 203 (p0, p2) (.agg (List.flatMap (fun (x : Int) => ([.int .i64 x] : List Value)) ([2, 2, 2, 2, 2, 2, 2, 2] : List Int)).toArray) false h35 (by kernel_rfl) rfl (by kernel_rfl) rfl (by kernel_rfl) (KeyOk.pair .i64 (E := 3) (q := .i64) (by kernel_rfl) (by kernel_rfl) (by kernel_rfl)) (fun _ => by kernel_rfl) (by simp only [findK, hc41, hc43, hc45, hc47, hc49, hc51, cond_true, cond_false, Option.map_some, Option.map_none, Option.getD_some, Option.getD_none, Option.isSome_some, Option.isSome_none]) ?_)
           refine RegI.p 1 [(60, .agg (List.flatMap (fun (x : Int) => ([.int .i64 x] : List Value)) ([2, 2, 2, 2, 2, 2, 2, 2] : List Int)).toArray), (61, .int .i64 p1)] ?_
           obtain ⟨hc52, h⟩ := of_cond0 h
           refine RegI.o (OpE.run 62 (by kernel_rfl) (run_indexTab (T0 := 203) (en := (fun (x : Int) => ([.int .i64 x] : List Value))) (tab := ([2, 2, 2, 2, 2, 2, 2, 2] : List Int)) (len := 8) (sz := 1) (j := p1) (v := .int .i64 (rdD ([2, 2, 2, 2, 2, 2, 2, 2] : List Int) p1)) (fun _ => rfl) (by kernel_rfl) (by kernel_rfl) rfl hc52 (fun _ => by kernel_rfl)) ?_)
           refine RegI.p 1 [(6, .int .i64 (rdD ([2, 2, 2, 2, 2, 2, 2, 2] : List Int) p1))] ?_
           refine RegI.d ?_
           refine RunsI.t (.int .i64 (rdD ([2, 2, 2, 2, 2, 2, 2, 2] : List Int) p1)) ?_
           obtain rfl := Option.some.inj h
           exact ⟨rfl, h35.below⟩
          ·skip
           rcases of_cond h with ⟨hc53, h⟩ | ⟨hc53, h⟩
           ·skip
            refine RegI.o (OpE.lookup (ek := (ekP .i64)) (ev := (fun (v : Value) => v)) (zv := .agg #[.int .i64 0, .int .i64 0, .int .i64 0, .int .i64 0, .int .i64 0, .int .i64 0, .int .i64 0, .int .i64 0]) 60 0 204 202 203 (p0, p2) (.agg (List.flatMap (fun (x : Int) => ([.int .i64 x] : List Value)) ([1, 1, 1, 1, 1, 1, 1, 1] : List Int)).toArray) false h35 (by kernel_rfl) rfl (by kernel_rfl) rfl (by kernel_rfl) (KeyOk.pair .i64 (E := 3) (q := .i64) (by kernel_rfl) (by kernel_rfl) (by kernel_rfl)) (fun _ => by kernel_rfl) (by simp only [findK, hc41, hc43, hc45, hc47, hc49, hc51, hc53, cond_true, cond_false, Option.map_some, Option.map_none, Option.getD_some, Option.getD_none, Option.isSome_some, Option.isSome_none]) ?_)
            refine RegI.p 1 [(60, .agg (List.flatMap (fun (x : Int) => ([.int .i64 x] : List Value)) ([1, 1, 1, 1, 1, 1, 1, 1] : List Int)).toArray), (61, .int .i64 p1)] ?_
            obtain ⟨hc54, h⟩ := of_cond0 h
            refine RegI.o (OpE.run 62 (by kernel_rfl) (run_indexTab (T0 := 203) (en := (fun (x : Int) => ([.int .i64 x] : List Value))) (tab := ([1, 1, 1, 1, 1, 1, 1, 1] : List Int)) (len := 8) (sz := 1) (j := p1) (v := .int .i64 (rdD ([1, 1, 1, 1, 1, 1, 1, 1] : List Int) p1)) (fun _ => rfl) (by kernel_rfl) (by kernel_rfl) rfl hc54 (fun _ => by kernel_rfl)) ?_)
            refine RegI.p 1 [(6, .int .i64 (rdD ([1, 1, 1, 1, 1, 1, 1, 1] : List Int) p1))] ?_
            refine RegI.d ?_
            refine RunsI.t (.int .i64 (rdD ([1, 1, 1, 1, 1, 1, 1, 1] : List Int) p1)) ?_
            obtain rfl := Option.some.inj h
            exact ⟨rfl, h35.below⟩
           ·skip
            refine RegI.o (OpE.lookup (ek := (ekP .i64)) (ev := (fun (v : Value) => v)) (zv := .agg #[.int .i64 0, .int .i64 0, .int .i64 0, .int .i64 0, .int .i64 0, .int .i64 0, .int .i64 0, .int .i64 0]) 60 0 204 202 203 (p0, p2) (.agg #[.int .i64 0, .int .i64 0, .int .i64 0, .int .i64 0, .int .i64 0, .int .i64 0, .int .i64 0, .int .i64 0]) false h35 (by kernel_rfl) rfl (by kernel_rfl) rfl (by kernel_rfl) (KeyOk.pair .i64 (E := 3) (q := .i64) (by kernel_rfl) (by kernel_rfl) (by kernel_rfl)) (fun _ => by kernel_rfl) (by simp only [findK, hc41, hc43, hc45, hc47, hc49, hc51, hc53, cond_true, cond_false, Option.map_some, Option.map_none, Option.getD_some, Option.getD_none, Option.isSome_some, Option.isSome_none]) ?_)
            refine RegI.p 1 [(60, .agg #[.int .i64 0, .int .i64 0, .int .i64 0, .int .i64 0, .int .i64 0, .int .i64 0, .int .i64 0, .int .i64 0]), (61, .int .i64 p1)] ?_
            obtain ⟨hc55, h⟩ := of_cond0 h
            refine RegI.o (OpE.run 62 (by kernel_rfl) (run_indexTab (T0 := 203) (en := (fun (x : Int) => ([.int .i64 x] : List Value))) (tab := ([0, 0, 0, 0, 0, 0, 0, 0] : List Int)) (len := 8) (sz := 1) (j := p1) (v := .int .i64 (rdD ([0, 0, 0, 0, 0, 0, 0, 0] : List Int) p1)) (fun _ => rfl) (by kernel_rfl) (by kernel_rfl) rfl hc55 (fun _ => by kernel_rfl)) ?_)
            refine RegI.p 1 [(6, .int .i64 (rdD ([0, 0, 0, 0, 0, 0, 0, 0] : List Int) p1))] ?_
            refine RegI.d ?_
            refine RunsI.t (.int .i64 (rdD ([0, 0, 0, 0, 0, 0, 0, 0] : List Int) p1)) ?_
            obtain rfl := Option.some.inj h
            exact ⟨rfl, h35.below⟩
   clear hJ38
   rcases of_cond h with ⟨hc31, h⟩ | ⟨hc31, h⟩
   ·skip
    refine RegI.f 44 true hc31 ?_
    refine RegI.p 4 [(0, .int .i64 p0), (1, .int .i64 p1), (2, .int .i64 p2), (7, .int .i64 (Int.fdiv p1 (2 ^ 1))), (8, .int .i64 (band .i64 p1 1)), (9, .map (some b10)), (48, .bool (p2 == 5))] ?_
    rcases of_cond h with ⟨hc32, h⟩ | ⟨hc32, h⟩
    ·skip
     refine RegI.f 48 true hc32 ?_
     refine RegI.p 4 [(0, .int .i64 p0), (1, .int .i64 p1), (2, .int .i64 p2), (7, .int .i64 (Int.fdiv p1 (2 ^ 1))), (9, .map (some b10)), (52, .bool ((band .i64 p1 1) == 1))] ?_
     rcases of_cond h with ⟨hc33, h⟩ | ⟨hc33, h⟩
     ·skip
      refine RegI.f 52 true hc33 ?_
      refine RegI.p 4 [(0, .int .i64 p0), (1, .int .i64 p1), (2, .int .i64 p2), (9, .map (some b10)), (41, .bool ((Int.fdiv p1 (2 ^ 1)) == 0))] ?_
      refine RegI.l [0, 1, 2, 9, 41] [(0, .int .i64 p0), (1, .int .i64 p1), (2, .int .i64 p2), (9, .map (some b10)), (41, .bool ((Int.fdiv p1 (2 ^ 1)) == 0))] ?_
      exact hj39 ((Int.fdiv p1 (2 ^ 1)) == 0) w26 h (h25.pick [0] (by decide))
     ·skip
      refine RegI.f 52 false hc33 ?_
      refine RegI.p 4 [(0, .int .i64 p0), (1, .int .i64 p1), (2, .int .i64 p2), (9, .map (some b10)), (41, .bool false)] ?_
      refine RegI.l [0, 1, 2, 9, 41] [(0, .int .i64 p0), (1, .int .i64 p1), (2, .int .i64 p2), (9, .map (some b10)), (41, .bool false)] ?_
      exact hj39 false w26 h (h25.pick [0] (by decide))
    ·skip
     refine RegI.f 48 false hc32 ?_
     refine RegI.p 8 [(0, .int .i64 p0), (1, .int .i64 p1), (2, .int .i64 p2), (9, .map (some b10)), (41, .bool false)] ?_
     refine RegI.l [0, 1, 2, 9, 41] [(0, .int .i64 p0), (1, .int .i64 p1), (2, .int .i64 p2), (9, .map (some b10)), (41, .bool false)] ?_
     exact hj39 false w26 h (h25.pick [0] (by decide))
   ·skip
    refine RegI.f 44 false hc31 ?_
    refine RegI.p 12 [(0, .int .i64 p0), (1, .int .i64 p1), (2, .int .i64 p2), (9, .map (some b10)), (41, .bool false)] ?_
    refine RegI.l [0, 1, 2, 9, 41] [(0, .int .i64 p0), (1, .int .i64 p1), (2, .int .i64 p2), (9, .map (some b10)), (41, .bool false)] ?_
    exact hj39 false w26 h (h25.pick [0] (by decide))
 clear hJ28
 rcases of_cond h with ⟨hc22, h⟩ | ⟨hc22, h⟩
 ·skip
  refine RegI.f 33 true hc22 ?_
  refine RegI.p 4 [(0, .int .i64 p0), (1, .int .i64 p1), (2, .int .i64 p2), (7, .int .i64 (Int.fdiv p1 (2 ^ 1))), (8, .int .i64 (band .i64 p1 1)), (9, .map (some b10)), (37, .bool (p2 == 1))] ?_
  rcases of_cond h with ⟨hc23, h⟩ | ⟨hc23, h⟩
  ·skip
   refine RegI.f 37 true hc23 ?_
   refine RegI.p 4 [(0, .int .i64 p0), (1, .int .i64 p1), (2, .int .i64 p2), (7, .int .i64 (Int.fdiv p1 (2 ^ 1))), (8, .int .i64 (band .i64 p1 1)), (9, .map (some b10)), (30, .bool ((band .i64 p1 1) == 0))] ?_
   refine RegI.l [0, 1, 2, 7, 8, 9, 30] [(0, .int .i64 p0), (1, .int .i64 p1), (2, .int .i64 p2), (7, .int .i64 (Int.fdiv p1 (2 ^ 1))), (8, .int .i64 (band .i64 p1 1)), (9, .map (some b10)), (30, .bool ((band .i64 p1 1) == 0))] ?_
   exact hj29 ((band .i64 p1 1) == 0) w19 h (h21.pick [0] (by decide))
  ·skip
   refine RegI.f 37 false hc23 ?_
   refine RegI.p 4 [(0, .int .i64 p0), (1, .int .i64 p1), (2, .int .i64 p2), (7, .int .i64 (Int.fdiv p1 (2 ^ 1))), (8, .int .i64 (band .i64 p1 1)), (9, .map (some b10)), (30, .bool false)] ?_
   refine RegI.l [0, 1, 2, 7, 8, 9, 30] [(0, .int .i64 p0), (1, .int .i64 p1), (2, .int .i64 p2), (7, .int .i64 (Int.fdiv p1 (2 ^ 1))), (8, .int .i64 (band .i64 p1 1)), (9, .map (some b10)), (30, .bool false)] ?_
   exact hj29 false w19 h (h21.pick [0] (by decide))
 ·skip
  refine RegI.f 33 false hc22 ?_
  refine RegI.p 8 [(0, .int .i64 p0), (1, .int .i64 p1), (2, .int .i64 p2), (7, .int .i64 (Int.fdiv p1 (2 ^ 1))), (8, .int .i64 (band .i64 p1 1)), (9, .map (some b10)), (30, .bool false)] ?_
  refine RegI.l [0, 1, 2, 7, 8, 9, 30] [(0, .int .i64 p0), (1, .int .i64 p1), (2, .int .i64 p2), (7, .int .i64 (Int.fdiv p1 (2 ^ 1))), (8, .int .i64 (band .i64 p1 1)), (9, .map (some b10)), (30, .bool false)] ?_
  exact hj29 false w19 h (h21.pick [0] (by decide))
end

/-! ### charabanc/decode.Size (function 152) -/
section
def decode_Size_152.post (M0 : Nat → Prop) (w0 : World) (r : Int) : Ending → World → Prop := fun e w => e = .returned (.int .i64 r) ∧ Below w0.heap.size w0 w
def decode_Size_152.f (K : Nat) (p0 : Int) (p1 : Int) : Option Int := (decode_Fields_85.f K p1).bind fun yt5 => Let (fun (t12 : Bool) => cond t12 ((decode_plain_170.f K yt5.1 yt5.2.1 yt5.2.2.1).bind fun t23 => some t23) (Let (fun (t26 : Bool) => cond t26 (some 2) (some 0)) (fun j29 => cond (p0 == 2) (cond (yt5.1 == 1) (j29 (yt5.2.2.1 == 3)) (j29 false)) (j29 false)))) (fun j15 => cond (p0 == 0) (j15 true) (cond (p0 == 3) (j15 true) (j15 (p0 == 4))))
set_option maxRecDepth 100000 in
theorem decode_Size_152_ok (K : Nat) (M0 : Nat → Prop) (w0 : World) (p0 : Int) (p1 : Int) (ho : ∀ b, M0 b → b < w0.heap.size) {r : Int} (h : decode_Size_152.f K p0 p1 = some r) :
  Calls Tryd.prog 152 #[.int .i64 p0, .int .u8 p1] w0 (decode_Size_152.post M0 w0 r) := by
 unfold decode_Size_152.f at h
 have h0 : Holds M0 w0 w0 [] := Holds.start ho
 have h0 : Holds M0 w0 w0 [] := h0
 refine calls_of F152 rfl [.int .i64 p0, .int .u8 p1] (by kernel_rfl) ?_
 refine RunsI.g 1 [.c 1, .c 2] ?_
 refine RunsI.r ?_
 refine RegI.p 1 [(0, .int .i64 p0), (1, .int .u8 p1)] ?_
 refine RegI.d ?_
 refine RunsI.g 1 [.c 3, .c 4] ?_
 refine RunsI.r ?_
 refine RegI.p 1 [(0, .int .i64 p0), (11, .int .u8 p1)] ?_
 obtain ⟨⟨t5, t6, t7, t8, t9⟩, hg4, h⟩ := of_bind h
 dsimp only at h
 refine RegI.o (OpE.call 12 (by kernel_rfl) 85 #[.int .u8 p1] (by kernel_rfl) ((decode_Fields_85_ok K _ w0  p1 h0.old' hg4).mono ?_))
 rintro _ w1 ⟨rfl, hb2⟩
 refine ⟨_, rfl, ?_⟩
 have h3 := h0.call hb2
 refine RegI.p 11 [(0, .int .i64 p0), (5, .int .i64 t5), (6, .int .i64 t6), (7, .int .i64 t7)] ?_
 refine RegI.d ?_
 refine RunsI.g 3 [.c 7, .c 8, .blk 0, .c 19] ?_
 refine RunsI.r ?_
 refine RegI.p 3 [(0, .int .i64 p0), (5, .int .i64 t5), (6, .int .i64 t6), (7, .int .i64 t7), (21, .bool (p0 == 0))] ?_
 obtain ⟨j15, hJ16, h⟩ := of_let h
 have hj17 : ∀ (t12 : Bool) (w14 : World), j15 t12 = some r → Holds M0 w0 w14 [] → RegI F152 7 [.c 8, .blk 0, .c 19] 11 [(0, .int .i64 p0), (5, .int .i64 t5), (6, .int .i64 t6), (7, .int .i64 t7), (18, .bool t12)] w14 (decode_Size_152.post M0 w0 r) := by
  intro t12 w14 h h13
  rw [hJ16] at h
  clear hJ16
  dsimp only at h
  refine RegI.d ?_
  rcases of_cond h with ⟨hc18, h⟩ | ⟨hc18, h⟩
  ·skip
   refine RunsI.f 18 true hc18 ?_
   refine RunsI.b true 9 ?_
   refine RunsI.g 1 [.c 10, .c 11, .blk 0, .c 19] ?_
   refine RunsI.r ?_
   refine RegI.p 3 [(29, .int .i64 t5), (30, .int .i64 t6), (31, .int .i64 t7)] ?_
   obtain ⟨t23, hg22, h⟩ := of_bind h
   refine RegI.o (OpE.call 32 (by kernel_rfl) 170 #[.int .i64 t5, .int .i64 t6, .int .i64 t7] (by kernel_rfl) ((decode_plain_170_ok K _ w14  t5 t6 t7 h13.old' hg22).mono ?_))
   rintro _ w19 ⟨rfl, hb20⟩
   refine ⟨_, rfl, ?_⟩
   have h21 := h13.call hb20
   refine RegI.p 1 [(4, .int .i64 t23)] ?_
   refine RegI.d ?_
   refine RunsI.t (.int .i64 t23) ?_
   obtain rfl := Option.some.inj h
   exact ⟨rfl, h21.below⟩
  ·skip
   refine RunsI.f 18 false hc18 ?_
   refine RunsI.b false 12 ?_
   refine RunsI.g 1 [.c 13, .c 14, .blk 0, .c 19] ?_
   refine RunsI.r ?_
   refine RegI.p 3 [(5, .int .i64 t5), (7, .int .i64 t7), (36, .bool (p0 == 2))] ?_
   obtain ⟨j29, hJ30, h⟩ := of_let h
   have hj31 : ∀ (t26 : Bool) (w28 : World), j29 t26 = some r → Holds M0 w0 w28 [] → RegI F152 13 [.c 14, .blk 0, .c 19] 11 [(33, .bool t26)] w28 (decode_Size_152.post M0 w0 r) := by
    intro t26 w28 h h27
    rw [hJ30] at h
    clear hJ30
    dsimp only at h
    refine RegI.d ?_
    rcases of_cond h with ⟨hc32, h⟩ | ⟨hc32, h⟩
    ·skip
     refine RunsI.f 33 true hc32 ?_
     refine RunsI.b true 15 ?_
     refine RunsI.g 1 [.c 16, .c 17, .blk 0, .c 19] ?_
     refine RunsI.r ?_
     refine RegI.p 1 [(4, .int .i64 2)] ?_
     refine RegI.d ?_
     refine RunsI.t (.int .i64 2) ?_
     obtain rfl := Option.some.inj h
     exact ⟨rfl, h27.below⟩
    ·skip
     refine RunsI.f 33 false hc32 ?_
     refine RunsI.b false 18 ?_
     refine RunsI.g 1 [.blk 0, .c 19] ?_
     refine RunsI.g 2 [.c 20, .c 21] ?_
     refine RunsI.r ?_
     refine RegI.p 1 [(4, .int .i64 0)] ?_
     refine RegI.d ?_
     refine RunsI.t (.int .i64 0) ?_
     obtain rfl := Option.some.inj h
     exact ⟨rfl, h27.below⟩
   clear hJ30
   rcases of_cond h with ⟨hc24, h⟩ | ⟨hc24, h⟩
   ·skip
    refine RegI.f 36 true hc24 ?_
    refine RegI.p 4 [(7, .int .i64 t7), (40, .bool (t5 == 1))] ?_
    rcases of_cond h with ⟨hc25, h⟩ | ⟨hc25, h⟩
    ·skip
     refine RegI.f 40 true hc25 ?_
     refine RegI.p 4 [(33, .bool (t7 == 3))] ?_
     refine RegI.l [33] [(33, .bool (t7 == 3))] ?_
     exact hj31 (t7 == 3) w14 h (h13.pick [] (by decide))
    ·skip
     refine RegI.f 40 false hc25 ?_
     refine RegI.p 4 [(33, .bool false)] ?_
     refine RegI.l [33] [(33, .bool false)] ?_
     exact hj31 false w14 h (h13.pick [] (by decide))
   ·skip
    refine RegI.f 36 false hc24 ?_
    refine RegI.p 8 [(33, .bool false)] ?_
    refine RegI.l [33] [(33, .bool false)] ?_
    exact hj31 false w14 h (h13.pick [] (by decide))
 clear hJ16
 rcases of_cond h with ⟨hc10, h⟩ | ⟨hc10, h⟩
 ·skip
  refine RegI.f 21 true hc10 ?_
  refine RegI.p 8 [(0, .int .i64 p0), (5, .int .i64 t5), (6, .int .i64 t6), (7, .int .i64 t7), (18, .bool true)] ?_
  refine RegI.l [0, 5, 6, 7, 18] [(0, .int .i64 p0), (5, .int .i64 t5), (6, .int .i64 t6), (7, .int .i64 t7), (18, .bool true)] ?_
  exact hj17 true w1 h (h3.pick [] (by decide))
 ·skip
  refine RegI.f 21 false hc10 ?_
  refine RegI.p 4 [(0, .int .i64 p0), (5, .int .i64 t5), (6, .int .i64 t6), (7, .int .i64 t7), (25, .bool (p0 == 3))] ?_
  rcases of_cond h with ⟨hc11, h⟩ | ⟨hc11, h⟩
  ·skip
   refine RegI.f 25 true hc11 ?_
   refine RegI.p 4 [(0, .int .i64 p0), (5, .int .i64 t5), (6, .int .i64 t6), (7, .int .i64 t7), (18, .bool true)] ?_
   refine RegI.l [0, 5, 6, 7, 18] [(0, .int .i64 p0), (5, .int .i64 t5), (6, .int .i64 t6), (7, .int .i64 t7), (18, .bool true)] ?_
   exact hj17 true w1 h (h3.pick [] (by decide))
  ·skip
   refine RegI.f 25 false hc11 ?_
   refine RegI.p 4 [(0, .int .i64 p0), (5, .int .i64 t5), (6, .int .i64 t6), (7, .int .i64 t7), (18, .bool (p0 == 4))] ?_
   refine RegI.l [0, 5, 6, 7, 18] [(0, .int .i64 p0), (5, .int .i64 t5), (6, .int .i64 t6), (7, .int .i64 t7), (18, .bool (p0 == 4))] ?_
   exact hj17 (p0 == 4) w1 h (h3.pick [] (by decide))
end
end Go.Proofs.YtilgjfckgkkfmaaDoor.Tex
