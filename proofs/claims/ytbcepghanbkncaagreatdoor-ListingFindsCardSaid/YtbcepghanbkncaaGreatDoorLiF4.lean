/- Functions of the program as plain Lean functions, each with the proof that the call comes to it; written by wip/eng.py. -/
import Derived.Test.YtbcepghanbkncaaGreatDoorLiF3
set_option linter.unusedVariables false
set_option linter.unusedSimpArgs false
set_option maxHeartbeats 4000000
namespace Go.Proofs.YtbcepghanbkncaaGreatDoor.LiF
open Go.RowKit Go.Eng
/-! ### (charabanc/text.shown).low (function 94) -/
section
def text_shown_low_94.post (M0 : Nat → Prop) (w0 : World) (r : ByteArray) : Ending → World → Prop := fun e w => e = .returned (.string r) ∧ Below w0.heap.size w0 w
def text_shown_low_94.f (K : Nat) (p0_0_0 : Int) (p0_0_1 : Int) (p0_0_2 : Int) (p0_0_3 : Int) (p0_0_4 : Int) (p0_0_5 : Int) (p0_1 : Int) (p0_2 : Int) (p0_3 : Int) (p0_4 : Int) (p0_5 : Int) : Option ByteArray := cond (p0_3 == 0) (cond (decide (p0_2 > 3)) (cond (inR (IntKind.wrap .i64 (p0_2 - 4)) 8) (cond (mayCat (⟨#[106, 114, 32]⟩ : ByteArray).size (rdD tab_1 (IntKind.wrap .i64 (p0_2 - 4))).size) (cond (mayCat ((⟨#[106, 114, 32]⟩ : ByteArray) ++ (rdD tab_1 (IntKind.wrap .i64 (p0_2 - 4)))).size (⟨#[44]⟩ : ByteArray).size) ((text_shown_to_145.f K p0_0_0 p0_0_1 p0_0_2 p0_0_3 p0_0_4 p0_0_5 p0_1 p0_2 p0_3 p0_4 p0_5).bind fun t16 => cond (mayCat (((⟨#[106, 114, 32]⟩ : ByteArray) ++ (rdD tab_1 (IntKind.wrap .i64 (p0_2 - 4)))) ++ (⟨#[44]⟩ : ByteArray)).size t16.size) (some ((((⟨#[106, 114, 32]⟩ : ByteArray) ++ (rdD tab_1 (IntKind.wrap .i64 (p0_2 - 4)))) ++ (⟨#[44]⟩ : ByteArray)) ++ t16)) none) none) none) none) ((text_shown_to_145.f K p0_0_0 p0_0_1 p0_0_2 p0_0_3 p0_0_4 p0_0_5 p0_1 p0_2 p0_3 p0_4 p0_5).bind fun t26 => cond (mayCat (⟨#[100, 106, 110, 122, 32]⟩ : ByteArray).size t26.size) ((text_shown_to_145.f K p0_0_0 p0_0_1 p0_0_2 p0_0_3 p0_0_4 p0_0_5 p0_1 p0_2 p0_3 p0_4 p0_5).bind fun t29 => cond (mayCat (⟨#[106, 114, 32]⟩ : ByteArray).size t29.size) (cond (inR p0_2 4) (some (rdD ([(⟨#[110, 111, 112]⟩ : ByteArray), (⟨#[101, 120, 32, 97, 102, 44, 97, 102, 39]⟩ : ByteArray), ((⟨#[100, 106, 110, 122, 32]⟩ : ByteArray) ++ t26), ((⟨#[106, 114, 32]⟩ : ByteArray) ++ t29)] : List ByteArray) p0_2)) none) none) none)) (cond (p0_3 == 1) (cond (p0_5 == 1) ((text_shown_hl_146.f K p0_0_0 p0_0_1 p0_0_2 p0_0_3 p0_0_4 p0_0_5 p0_1 p0_2 p0_3 p0_4 p0_5).bind fun t42 => cond (mayCat (⟨#[97, 100, 100, 32]⟩ : ByteArray).size t42.size) (cond (mayCat ((⟨#[97, 100, 100, 32]⟩ : ByteArray) ++ t42).size (⟨#[44]⟩ : ByteArray).size) ((text_shown_pair_147.f K p0_0_0 p0_0_1 p0_0_2 p0_0_3 p0_0_4 p0_0_5 p0_1 p0_2 p0_3 p0_4 p0_5 p0_4 false).bind fun t46 => cond (mayCat (((⟨#[97, 100, 100, 32]⟩ : ByteArray) ++ t42) ++ (⟨#[44]⟩ : ByteArray)).size t46.size) (some ((((⟨#[97, 100, 100, 32]⟩ : ByteArray) ++ t42) ++ (⟨#[44]⟩ : ByteArray)) ++ t46)) none) none) none) ((text_shown_pair_147.f K p0_0_0 p0_0_1 p0_0_2 p0_0_3 p0_0_4 p0_0_5 p0_1 p0_2 p0_3 p0_4 p0_5 p0_4 false).bind fun t56 => cond (mayCat (⟨#[108, 100, 32]⟩ : ByteArray).size t56.size) (cond (mayCat ((⟨#[108, 100, 32]⟩ : ByteArray) ++ t56).size (⟨#[44]⟩ : ByteArray).size) ((text_shown_nn_148.f K p0_0_0 p0_0_1 p0_0_2 p0_0_3 p0_0_4 p0_0_5 p0_1 p0_2 p0_3 p0_4 p0_5).bind fun t60 => cond (mayCat (((⟨#[108, 100, 32]⟩ : ByteArray) ++ t56) ++ (⟨#[44]⟩ : ByteArray)).size t60.size) (some ((((⟨#[108, 100, 32]⟩ : ByteArray) ++ t56) ++ (⟨#[44]⟩ : ByteArray)) ++ t60)) none) none) none)) (cond (p0_3 == 2) ((text_shown_through_149.f K p0_0_0 p0_0_1 p0_0_2 p0_0_3 p0_0_4 p0_0_5 p0_1 p0_2 p0_3 p0_4 p0_5).bind fun t70 => some t70) (cond (p0_3 == 3) (cond (inR p0_5 2) ((text_shown_pair_147.f K p0_0_0 p0_0_1 p0_0_2 p0_0_3 p0_0_4 p0_0_5 p0_1 p0_2 p0_3 p0_4 p0_5 p0_4 false).bind fun t78 => cond (mayCat (rdD ([(⟨#[105, 110, 99, 32]⟩ : ByteArray), (⟨#[100, 101, 99, 32]⟩ : ByteArray)] : List ByteArray) p0_5).size t78.size) (some ((rdD ([(⟨#[105, 110, 99, 32]⟩ : ByteArray), (⟨#[100, 101, 99, 32]⟩ : ByteArray)] : List ByteArray) p0_5) ++ t78)) none) none) (Let (fun (t84 : Bool) => cond t84 (cond (inR (IntKind.wrap .i64 (p0_3 - 4)) 2) ((text_shown_reg_150.f K p0_0_0 p0_0_1 p0_0_2 p0_0_3 p0_0_4 p0_0_5 p0_1 p0_2 p0_3 p0_4 p0_5 p0_2).bind fun t97 => cond (mayCat (rdD ([(⟨#[105, 110, 99, 32]⟩ : ByteArray), (⟨#[100, 101, 99, 32]⟩ : ByteArray)] : List ByteArray) (IntKind.wrap .i64 (p0_3 - 4))).size t97.size) (some ((rdD ([(⟨#[105, 110, 99, 32]⟩ : ByteArray), (⟨#[100, 101, 99, 32]⟩ : ByteArray)] : List ByteArray) (IntKind.wrap .i64 (p0_3 - 4))) ++ t97)) none) none) (cond (p0_3 == 6) ((text_shown_reg_150.f K p0_0_0 p0_0_1 p0_0_2 p0_0_3 p0_0_4 p0_0_5 p0_1 p0_2 p0_3 p0_4 p0_5 p0_2).bind fun t108 => cond (mayCat (⟨#[108, 100, 32]⟩ : ByteArray).size t108.size) (cond (mayCat ((⟨#[108, 100, 32]⟩ : ByteArray) ++ t108).size (⟨#[44]⟩ : ByteArray).size) ((text_shown_n_151.f K p0_0_0 p0_0_1 p0_0_2 p0_0_3 p0_0_4 p0_0_5 p0_1 p0_2 p0_3 p0_4 p0_5).bind fun t112 => cond (mayCat (((⟨#[108, 100, 32]⟩ : ByteArray) ++ t108) ++ (⟨#[44]⟩ : ByteArray)).size t112.size) (some ((((⟨#[108, 100, 32]⟩ : ByteArray) ++ t108) ++ (⟨#[44]⟩ : ByteArray)) ++ t112)) none) none) none) (cond (inR p0_2 8) (some (rdD tab_2 p0_2)) none))) (fun j87 => cond (p0_3 == 4) (j87 true) (j87 (p0_3 == 5)))))))
set_option maxRecDepth 100000 in
theorem text_shown_low_94_ok (K : Nat) (M0 : Nat → Prop) (w0 : World) (p0_0_0 : Int) (p0_0_1 : Int) (p0_0_2 : Int) (p0_0_3 : Int) (p0_0_4 : Int) (p0_0_5 : Int) (p0_1 : Int) (p0_2 : Int) (p0_3 : Int) (p0_4 : Int) (p0_5 : Int) (ho : ∀ b, M0 b → b < w0.heap.size) (hG1 : (gl 1 (tab_1.flatMap en_1)).ok w0 M0) (hG2 : (gl 2 (tab_2.flatMap en_2)).ok w0 M0) (hG6 : (gl 6 (tab_6.flatMap en_6)).ok w0 M0) (hG7 : (gl 7 (tab_7.flatMap en_7)).ok w0 M0) (hG12 : (gl 12 (tab_12.flatMap en_12)).ok w0 M0) (hG15 : (gl 15 (tab_15.flatMap en_15)).ok w0 M0) (hG16 : (gl 16 (tab_16.flatMap en_16)).ok w0 M0) {r : ByteArray} (h : text_shown_low_94.f K p0_0_0 p0_0_1 p0_0_2 p0_0_3 p0_0_4 p0_0_5 p0_1 p0_2 p0_3 p0_4 p0_5 = some r) :
  Calls Tryz.prog 94 #[.agg #[.int .i64 p0_0_0, .int .u8 p0_0_1, .int .u8 p0_0_2, .int .u16 p0_0_3, .int .i64 p0_0_4, .int .i64 p0_0_5, .int .i64 p0_1, .int .i64 p0_2, .int .i64 p0_3, .int .i64 p0_4, .int .i64 p0_5]] w0 (text_shown_low_94.post M0 w0 r) := by
 unfold text_shown_low_94.f at h
 have h0 : Holds M0 w0 w0 [] := Holds.start ho
 have h0g1 := h0.add (gl 1 (tab_1.flatMap en_1)) rfl ⟨hG1.1, fun hm => hG1.2.1 (hm.elim id (fun hm => absurd hm (by simp [mines, sl, gl, cel]))), hG1.2.2⟩
 have h0g2 := h0g1.add (gl 2 (tab_2.flatMap en_2)) rfl ⟨hG2.1, fun hm => hG2.2.1 (hm.elim id (fun hm => absurd hm (by simp [mines, sl, gl, cel]))), hG2.2.2⟩
 have h0g6 := h0g2.add (gl 6 (tab_6.flatMap en_6)) rfl ⟨hG6.1, fun hm => hG6.2.1 (hm.elim id (fun hm => absurd hm (by simp [mines, sl, gl, cel]))), hG6.2.2⟩
 have h0g7 := h0g6.add (gl 7 (tab_7.flatMap en_7)) rfl ⟨hG7.1, fun hm => hG7.2.1 (hm.elim id (fun hm => absurd hm (by simp [mines, sl, gl, cel]))), hG7.2.2⟩
 have h0g12 := h0g7.add (gl 12 (tab_12.flatMap en_12)) rfl ⟨hG12.1, fun hm => hG12.2.1 (hm.elim id (fun hm => absurd hm (by simp [mines, sl, gl, cel]))), hG12.2.2⟩
 have h0g15 := h0g12.add (gl 15 (tab_15.flatMap en_15)) rfl ⟨hG15.1, fun hm => hG15.2.1 (hm.elim id (fun hm => absurd hm (by simp [mines, sl, gl, cel]))), hG15.2.2⟩
 have h0g16 := h0g15.add (gl 16 (tab_16.flatMap en_16)) rfl ⟨hG16.1, fun hm => hG16.2.1 (hm.elim id (fun hm => absurd hm (by simp [mines, sl, gl, cel]))), hG16.2.2⟩
 have h0 : Holds M0 w0 w0 [gl 1 (tab_1.flatMap en_1), gl 2 (tab_2.flatMap en_2), gl 6 (tab_6.flatMap en_6), gl 7 (tab_7.flatMap en_7), gl 12 (tab_12.flatMap en_12), gl 15 (tab_15.flatMap en_15), gl 16 (tab_16.flatMap en_16)] := h0g16
 refine calls_of F94 rfl [.agg #[.int .i64 p0_0_0, .int .u8 p0_0_1, .int .u8 p0_0_2, .int .u16 p0_0_3, .int .i64 p0_0_4, .int .i64 p0_0_5, .int .i64 p0_1, .int .i64 p0_2, .int .i64 p0_3, .int .i64 p0_4, .int .i64 p0_5]] (by kernel_rfl) ?_
 refine RunsI.g 1 [.c 1, .c 2] ?_
 refine RunsI.r ?_
 refine RegI.o (OpE.box 1 126 [.int .i64 p0_0_0, .int .u8 p0_0_1, .int .u8 p0_0_2, .int .u16 p0_0_3, .int .i64 p0_0_4, .int .i64 p0_0_5, .int .i64 p0_1, .int .i64 p0_2, .int .i64 p0_3, .int .i64 p0_4, .int .i64 p0_5] h0 (by kernel_rfl) (by kernel_rfl) ?_)
 intro w1 b2 h3 hb4 hn5
 refine RegI.p 1 [(1, .pointer (some ⟨b2, 0, none⟩))] ?_
 refine RegI.d ?_
 refine RunsI.g 2 [.c 4, .c 5, .c 63] ?_
 refine RunsI.r ?_
 refine RegI.p 1 [(1, .pointer (some ⟨b2, 0, none⟩)), (3, .pointer (some ⟨b2, 8, none⟩))] ?_
 refine RegI.o (OpE.loadBox 4 7 3 b2 8 (.int .i64 p0_3) h3 (by kernel_rfl) (by kernel_rfl) rfl (by kernel_rfl) ?_)
 refine RegI.d ?_
 refine RunsI.g 2 [.c 7, .c 8, .blk 0, .c 63] ?_
 refine RunsI.r ?_
 refine RegI.p 2 [(1, .pointer (some ⟨b2, 0, none⟩)), (4, .int .i64 p0_3), (5, .bool (p0_3 == 0))] ?_
 refine RegI.d ?_
 rcases of_cond h with ⟨hc6, h⟩ | ⟨hc6, h⟩
 ·skip
  refine RunsI.f 5 true hc6 ?_
  refine RunsI.b true 9 ?_
  refine RunsI.g 2 [.c 11, .c 12, .c 17, .blk 0, .c 63] ?_
  refine RunsI.r ?_
  refine RegI.p 1 [(1, .pointer (some ⟨b2, 0, none⟩)), (7, .pointer (some ⟨b2, 7, none⟩))] ?_
  refine RegI.o (OpE.loadBox 8 7 3 b2 7 (.int .i64 p0_2) h3 (by kernel_rfl) (by kernel_rfl) rfl (by kernel_rfl) ?_)
  refine RegI.p 1 [(1, .pointer (some ⟨b2, 0, none⟩)), (9, .bool (decide (p0_2 > 3)))] ?_
  refine RegI.d ?_
  rcases of_cond h with ⟨hc7, h⟩ | ⟨hc7, h⟩
  ·skip
   refine RunsI.f 9 true hc7 ?_
   refine RunsI.b true 13 ?_
   refine RunsI.g 1 [.c 14, .c 15, .c 17, .blk 0, .c 63] ?_
   refine RunsI.any 11 (by kernel_rfl) (by kernel_rfl) (by kernel_rfl) (Kp ([] : List Nat) (World.drew w1)) ?_
   have h9 := h3.drew
   generalize World.drew w1 = w8 at h9 ⊢
   have hS10 := Kp.refl ([] : List Nat) w8
   refine AnyE.pure 0 10 (.pointer (some ⟨b2, 7, none⟩)) (by kernel_rfl) hS10 (fun _ => by kernel_rfl) ?_
   refine AnyE.loadBox 1 11 7 3 b2 7 (.int .i64 p0_2) [] h9 rfl (by kernel_rfl) hS10 rfl rfl (by kernel_rfl) (by kernel_rfl) ?_
   refine AnyE.pure 2 12 (.int .i64 (IntKind.wrap .i64 (p0_2 - 4))) (by kernel_rfl) hS10 (fun _ => by kernel_rfl) ?_
   obtain ⟨hc12, h⟩ := of_cond0 h
   refine AnyE.run 3 13 (.pointer (some ⟨1, 0 + (Int.toNat (IntKind.wrap .i64 (p0_2 - 4))) * 1, none⟩)) (by kernel_rfl) hS10 (fun _ hk => run_idxArr (T := 169) (b := 1) (o := 0) (ix := (IntKind.wrap .i64 (p0_2 - 4))) (len := 8) (s := 1) (by kernel_rfl) (by kernel_rfl) hc12) ?_
   refine AnyE.loadTab 4 14 0 9 en_1 tab_1 0 1 (IntKind.wrap .i64 (p0_2 - 4)) (.string (rdD tab_1 (IntKind.wrap .i64 (p0_2 - 4)))) [] (o := 0 + (Int.toNat (IntKind.wrap .i64 (p0_2 - 4))) * 1 + 0) h9 rfl (by kernel_rfl) hS10 rfl rfl (fun _ => rfl) (by kernel_rfl) (by omega) hc12 (fun _ => by kernel_rfl) ?_
   obtain ⟨hc13, h⟩ := of_cond0 h
   refine AnyE.run 5 15 (.string ((⟨#[106, 114, 32]⟩ : ByteArray) ++ (rdD tab_1 (IntKind.wrap .i64 (p0_2 - 4))))) (by kernel_rfl) hS10 (fun _ hk => run_cat (a := (⟨#[106, 114, 32]⟩ : ByteArray)) (b := (rdD tab_1 (IntKind.wrap .i64 (p0_2 - 4)))) (by kernel_rfl) hc13) ?_
   obtain ⟨hc14, h⟩ := of_cond0 h
   refine AnyE.run 6 16 (.string (((⟨#[106, 114, 32]⟩ : ByteArray) ++ (rdD tab_1 (IntKind.wrap .i64 (p0_2 - 4)))) ++ (⟨#[44]⟩ : ByteArray))) (by kernel_rfl) hS10 (fun _ hk => run_cat (a := ((⟨#[106, 114, 32]⟩ : ByteArray) ++ (rdD tab_1 (IntKind.wrap .i64 (p0_2 - 4))))) (b := (⟨#[44]⟩ : ByteArray)) (by kernel_rfl) hc14) ?_
   refine AnyE.loadBox 7 17 7 126 b2 0 (.agg #[.int .i64 p0_0_0, .int .u8 p0_0_1, .int .u8 p0_0_2, .int .u16 p0_0_3, .int .i64 p0_0_4, .int .i64 p0_0_5, .int .i64 p0_1, .int .i64 p0_2, .int .i64 p0_3, .int .i64 p0_4, .int .i64 p0_5]) [] h9 rfl (by kernel_rfl) hS10 rfl rfl (by kernel_rfl) (by kernel_rfl) ?_
   obtain ⟨t16, hg15, h⟩ := of_bind h
   refine AnyE.call 8 18 (.string t16) 145 #[.agg #[.int .i64 p0_0_0, .int .u8 p0_0_1, .int .u8 p0_0_2, .int .u16 p0_0_3, .int .i64 p0_0_4, .int .i64 p0_0_5, .int .i64 p0_1, .int .i64 p0_2, .int .i64 p0_3, .int .i64 p0_4, .int .i64 p0_5]] (by kernel_rfl) hS10 (fun _ => by kernel_rfl) (fun w hk => text_shown_to_145_ok K (fun _ => False) w p0_0_0 p0_0_1 p0_0_2 p0_0_3 p0_0_4 p0_0_5 p0_1 p0_2 p0_3 p0_4 p0_5 (fun _ hf => hf.elim) ⟨(h9.atI [] rfl hk 4 rfl rfl).1, fun hf => hf.elim, (h9.atI [] rfl hk 4 rfl rfl).2.2⟩ hg15) ?_
   obtain ⟨hc17, h⟩ := of_cond0 h
   refine AnyE.run 9 19 (.string ((((⟨#[106, 114, 32]⟩ : ByteArray) ++ (rdD tab_1 (IntKind.wrap .i64 (p0_2 - 4)))) ++ (⟨#[44]⟩ : ByteArray)) ++ t16)) (by kernel_rfl) hS10 (fun _ hk => run_cat (a := (((⟨#[106, 114, 32]⟩ : ByteArray) ++ (rdD tab_1 (IntKind.wrap .i64 (p0_2 - 4)))) ++ (⟨#[44]⟩ : ByteArray))) (b := t16) (by kernel_rfl) hc17) ?_
   refine AnyE.pure 10 2 (.string ((((⟨#[106, 114, 32]⟩ : ByteArray) ++ (rdD tab_1 (IntKind.wrap .i64 (p0_2 - 4)))) ++ (⟨#[44]⟩ : ByteArray)) ++ t16)) (by kernel_rfl) hS10 (fun _ => by kernel_rfl) ?_
   refine AnyE.done (by kernel_rfl) (fun w18 hu19 => ?_)
   have h20 := h9.call hu19
   refine RunsI.l [2] [(2, .string ((((⟨#[106, 114, 32]⟩ : ByteArray) ++ (rdD tab_1 (IntKind.wrap .i64 (p0_2 - 4)))) ++ (⟨#[44]⟩ : ByteArray)) ++ t16))] ?_
   refine RunsI.t (.string ((((⟨#[106, 114, 32]⟩ : ByteArray) ++ (rdD tab_1 (IntKind.wrap .i64 (p0_2 - 4)))) ++ (⟨#[44]⟩ : ByteArray)) ++ t16)) ?_
   obtain rfl := Option.some.inj h
   exact ⟨rfl, h20.below⟩
  ·skip
   refine RunsI.f 9 false hc7 ?_
   refine RunsI.b false 16 ?_
   refine RunsI.g 1 [.c 17, .blk 0, .c 63] ?_
   refine RunsI.g 1 [.c 18, .c 19, .blk 0, .c 63] ?_
   refine RunsI.any 11 (by kernel_rfl) (by kernel_rfl) (by kernel_rfl) (Kp ([] : List Nat) (World.drew w1)) ?_
   have h22 := h3.drew
   generalize World.drew w1 = w21 at h22 ⊢
   have hS23 := Kp.refl ([] : List Nat) w21
   refine AnyE.loadBox 0 20 7 126 b2 0 (.agg #[.int .i64 p0_0_0, .int .u8 p0_0_1, .int .u8 p0_0_2, .int .u16 p0_0_3, .int .i64 p0_0_4, .int .i64 p0_0_5, .int .i64 p0_1, .int .i64 p0_2, .int .i64 p0_3, .int .i64 p0_4, .int .i64 p0_5]) [] h22 rfl (by kernel_rfl) hS23 rfl rfl (by kernel_rfl) (by kernel_rfl) ?_
   obtain ⟨t26, hg25, h⟩ := of_bind h
   refine AnyE.call 1 21 (.string t26) 145 #[.agg #[.int .i64 p0_0_0, .int .u8 p0_0_1, .int .u8 p0_0_2, .int .u16 p0_0_3, .int .i64 p0_0_4, .int .i64 p0_0_5, .int .i64 p0_1, .int .i64 p0_2, .int .i64 p0_3, .int .i64 p0_4, .int .i64 p0_5]] (by kernel_rfl) hS23 (fun _ => by kernel_rfl) (fun w hk => text_shown_to_145_ok K (fun _ => False) w p0_0_0 p0_0_1 p0_0_2 p0_0_3 p0_0_4 p0_0_5 p0_1 p0_2 p0_3 p0_4 p0_5 (fun _ hf => hf.elim) ⟨(h22.atI [] rfl hk 4 rfl rfl).1, fun hf => hf.elim, (h22.atI [] rfl hk 4 rfl rfl).2.2⟩ hg25) ?_
   obtain ⟨hc27, h⟩ := of_cond0 h
   refine AnyE.run 2 22 (.string ((⟨#[100, 106, 110, 122, 32]⟩ : ByteArray) ++ t26)) (by kernel_rfl) hS23 (fun _ hk => run_cat (a := (⟨#[100, 106, 110, 122, 32]⟩ : ByteArray)) (b := t26) (by kernel_rfl) hc27) ?_
   refine AnyE.loadBox 3 23 7 126 b2 0 (.agg #[.int .i64 p0_0_0, .int .u8 p0_0_1, .int .u8 p0_0_2, .int .u16 p0_0_3, .int .i64 p0_0_4, .int .i64 p0_0_5, .int .i64 p0_1, .int .i64 p0_2, .int .i64 p0_3, .int .i64 p0_4, .int .i64 p0_5]) [] h22 rfl (by kernel_rfl) hS23 rfl rfl (by kernel_rfl) (by kernel_rfl) ?_
   obtain ⟨t29, hg28, h⟩ := of_bind h
   refine AnyE.call 4 24 (.string t29) 145 #[.agg #[.int .i64 p0_0_0, .int .u8 p0_0_1, .int .u8 p0_0_2, .int .u16 p0_0_3, .int .i64 p0_0_4, .int .i64 p0_0_5, .int .i64 p0_1, .int .i64 p0_2, .int .i64 p0_3, .int .i64 p0_4, .int .i64 p0_5]] (by kernel_rfl) hS23 (fun _ => by kernel_rfl) (fun w hk => text_shown_to_145_ok K (fun _ => False) w p0_0_0 p0_0_1 p0_0_2 p0_0_3 p0_0_4 p0_0_5 p0_1 p0_2 p0_3 p0_4 p0_5 (fun _ hf => hf.elim) ⟨(h22.atI [] rfl hk 4 rfl rfl).1, fun hf => hf.elim, (h22.atI [] rfl hk 4 rfl rfl).2.2⟩ hg28) ?_
   obtain ⟨hc30, h⟩ := of_cond0 h
   refine AnyE.run 5 25 (.string ((⟨#[106, 114, 32]⟩ : ByteArray) ++ t29)) (by kernel_rfl) hS23 (fun _ hk => run_cat (a := (⟨#[106, 114, 32]⟩ : ByteArray)) (b := t29) (by kernel_rfl) hc30) ?_
   refine AnyE.pure 6 26 (.agg (List.flatMap (fun (x : ByteArray) => ([.string x] : List Value)) ([(⟨#[110, 111, 112]⟩ : ByteArray), (⟨#[101, 120, 32, 97, 102, 44, 97, 102, 39]⟩ : ByteArray), ((⟨#[100, 106, 110, 122, 32]⟩ : ByteArray) ++ t26), ((⟨#[106, 114, 32]⟩ : ByteArray) ++ t29)] : List ByteArray)).toArray) (by kernel_rfl) hS23 (fun _ => by kernel_rfl) ?_
   refine AnyE.pure 7 27 (.pointer (some ⟨b2, 7, none⟩)) (by kernel_rfl) hS23 (fun _ => by kernel_rfl) ?_
   refine AnyE.loadBox 8 28 7 3 b2 7 (.int .i64 p0_2) [] h22 rfl (by kernel_rfl) hS23 rfl rfl (by kernel_rfl) (by kernel_rfl) ?_
   obtain ⟨hc31, h⟩ := of_cond0 h
   refine AnyE.run 9 29 (.string (rdD ([(⟨#[110, 111, 112]⟩ : ByteArray), (⟨#[101, 120, 32, 97, 102, 44, 97, 102, 39]⟩ : ByteArray), ((⟨#[100, 106, 110, 122, 32]⟩ : ByteArray) ++ t26), ((⟨#[106, 114, 32]⟩ : ByteArray) ++ t29)] : List ByteArray) p0_2)) (by kernel_rfl) hS23 (fun _ hk => run_indexTab (T0 := 170) (en := (fun (x : ByteArray) => ([.string x] : List Value))) (tab := ([(⟨#[110, 111, 112]⟩ : ByteArray), (⟨#[101, 120, 32, 97, 102, 44, 97, 102, 39]⟩ : ByteArray), ((⟨#[100, 106, 110, 122, 32]⟩ : ByteArray) ++ t26), ((⟨#[106, 114, 32]⟩ : ByteArray) ++ t29)] : List ByteArray)) (len := 4) (sz := 1) (j := p0_2) (v := .string (rdD ([(⟨#[110, 111, 112]⟩ : ByteArray), (⟨#[101, 120, 32, 97, 102, 44, 97, 102, 39]⟩ : ByteArray), ((⟨#[100, 106, 110, 122, 32]⟩ : ByteArray) ++ t26), ((⟨#[106, 114, 32]⟩ : ByteArray) ++ t29)] : List ByteArray) p0_2)) (fun _ => rfl) (by kernel_rfl) (by kernel_rfl) rfl hc31 (fun _ => by kernel_rfl)) ?_
   refine AnyE.pure 10 2 (.string (rdD ([(⟨#[110, 111, 112]⟩ : ByteArray), (⟨#[101, 120, 32, 97, 102, 44, 97, 102, 39]⟩ : ByteArray), ((⟨#[100, 106, 110, 122, 32]⟩ : ByteArray) ++ t26), ((⟨#[106, 114, 32]⟩ : ByteArray) ++ t29)] : List ByteArray) p0_2)) (by kernel_rfl) hS23 (fun _ => by kernel_rfl) ?_
   refine AnyE.done (by kernel_rfl) (fun w32 hu33 => ?_)
   have h34 := h22.call hu33
   refine RunsI.l [2] [(2, .string (rdD ([(⟨#[110, 111, 112]⟩ : ByteArray), (⟨#[101, 120, 32, 97, 102, 44, 97, 102, 39]⟩ : ByteArray), ((⟨#[100, 106, 110, 122, 32]⟩ : ByteArray) ++ t26), ((⟨#[106, 114, 32]⟩ : ByteArray) ++ t29)] : List ByteArray) p0_2))] ?_
   refine RunsI.t (.string (rdD ([(⟨#[110, 111, 112]⟩ : ByteArray), (⟨#[101, 120, 32, 97, 102, 44, 97, 102, 39]⟩ : ByteArray), ((⟨#[100, 106, 110, 122, 32]⟩ : ByteArray) ++ t26), ((⟨#[106, 114, 32]⟩ : ByteArray) ++ t29)] : List ByteArray) p0_2)) ?_
   obtain rfl := Option.some.inj h
   exact ⟨rfl, h34.below⟩
 ·skip
  refine RunsI.f 5 false hc6 ?_
  refine RunsI.b false 20 ?_
  refine RunsI.g 1 [.c 21, .c 22, .blk 0, .c 63] ?_
  refine RunsI.r ?_
  refine RegI.p 2 [(1, .pointer (some ⟨b2, 0, none⟩)), (4, .int .i64 p0_3), (30, .bool (p0_3 == 1))] ?_
  refine RegI.d ?_
  rcases of_cond h with ⟨hc35, h⟩ | ⟨hc35, h⟩
  ·skip
   refine RunsI.f 30 true hc35 ?_
   refine RunsI.b true 23 ?_
   refine RunsI.g 2 [.c 25, .c 26, .c 31, .blk 0, .c 63] ?_
   refine RunsI.r ?_
   refine RegI.p 1 [(1, .pointer (some ⟨b2, 0, none⟩)), (32, .pointer (some ⟨b2, 10, none⟩))] ?_
   refine RegI.o (OpE.loadBox 33 7 3 b2 10 (.int .i64 p0_5) h3 (by kernel_rfl) (by kernel_rfl) rfl (by kernel_rfl) ?_)
   refine RegI.p 1 [(1, .pointer (some ⟨b2, 0, none⟩)), (34, .bool (p0_5 == 1))] ?_
   refine RegI.d ?_
   rcases of_cond h with ⟨hc36, h⟩ | ⟨hc36, h⟩
   ·skip
    refine RunsI.f 34 true hc36 ?_
    refine RunsI.b true 27 ?_
    refine RunsI.g 1 [.c 28, .c 29, .c 31, .blk 0, .c 63] ?_
    refine RunsI.any 10 (by kernel_rfl) (by kernel_rfl) (by kernel_rfl) (Kp ([] : List Nat) (World.drew w1)) ?_
    have h38 := h3.drew
    generalize World.drew w1 = w37 at h38 ⊢
    have hS39 := Kp.refl ([] : List Nat) w37
    refine AnyE.loadBox 0 35 7 126 b2 0 (.agg #[.int .i64 p0_0_0, .int .u8 p0_0_1, .int .u8 p0_0_2, .int .u16 p0_0_3, .int .i64 p0_0_4, .int .i64 p0_0_5, .int .i64 p0_1, .int .i64 p0_2, .int .i64 p0_3, .int .i64 p0_4, .int .i64 p0_5]) [] h38 rfl (by kernel_rfl) hS39 rfl rfl (by kernel_rfl) (by kernel_rfl) ?_
    obtain ⟨t42, hg41, h⟩ := of_bind h
    refine AnyE.call 1 36 (.string t42) 146 #[.agg #[.int .i64 p0_0_0, .int .u8 p0_0_1, .int .u8 p0_0_2, .int .u16 p0_0_3, .int .i64 p0_0_4, .int .i64 p0_0_5, .int .i64 p0_1, .int .i64 p0_2, .int .i64 p0_3, .int .i64 p0_4, .int .i64 p0_5]] (by kernel_rfl) hS39 (fun _ => by kernel_rfl) (fun w hk => text_shown_hl_146_ok K (fun _ => False) w p0_0_0 p0_0_1 p0_0_2 p0_0_3 p0_0_4 p0_0_5 p0_1 p0_2 p0_3 p0_4 p0_5 (fun _ hf => hf.elim) ⟨(h38.atI [] rfl hk 3 rfl rfl).1, fun hf => hf.elim, (h38.atI [] rfl hk 3 rfl rfl).2.2⟩ hg41) ?_
    obtain ⟨hc43, h⟩ := of_cond0 h
    refine AnyE.run 2 37 (.string ((⟨#[97, 100, 100, 32]⟩ : ByteArray) ++ t42)) (by kernel_rfl) hS39 (fun _ hk => run_cat (a := (⟨#[97, 100, 100, 32]⟩ : ByteArray)) (b := t42) (by kernel_rfl) hc43) ?_
    obtain ⟨hc44, h⟩ := of_cond0 h
    refine AnyE.run 3 38 (.string (((⟨#[97, 100, 100, 32]⟩ : ByteArray) ++ t42) ++ (⟨#[44]⟩ : ByteArray))) (by kernel_rfl) hS39 (fun _ hk => run_cat (a := ((⟨#[97, 100, 100, 32]⟩ : ByteArray) ++ t42)) (b := (⟨#[44]⟩ : ByteArray)) (by kernel_rfl) hc44) ?_
    refine AnyE.loadBox 4 39 7 126 b2 0 (.agg #[.int .i64 p0_0_0, .int .u8 p0_0_1, .int .u8 p0_0_2, .int .u16 p0_0_3, .int .i64 p0_0_4, .int .i64 p0_0_5, .int .i64 p0_1, .int .i64 p0_2, .int .i64 p0_3, .int .i64 p0_4, .int .i64 p0_5]) [] h38 rfl (by kernel_rfl) hS39 rfl rfl (by kernel_rfl) (by kernel_rfl) ?_
    refine AnyE.pure 5 40 (.pointer (some ⟨b2, 9, none⟩)) (by kernel_rfl) hS39 (fun _ => by kernel_rfl) ?_
    refine AnyE.loadBox 6 41 7 3 b2 9 (.int .i64 p0_4) [] h38 rfl (by kernel_rfl) hS39 rfl rfl (by kernel_rfl) (by kernel_rfl) ?_
    obtain ⟨t46, hg45, h⟩ := of_bind h
    refine AnyE.call 7 42 (.string t46) 147 #[.agg #[.int .i64 p0_0_0, .int .u8 p0_0_1, .int .u8 p0_0_2, .int .u16 p0_0_3, .int .i64 p0_0_4, .int .i64 p0_0_5, .int .i64 p0_1, .int .i64 p0_2, .int .i64 p0_3, .int .i64 p0_4, .int .i64 p0_5], .int .i64 p0_4, .bool false] (by kernel_rfl) hS39 (fun _ => by kernel_rfl) (fun w hk => text_shown_pair_147_ok K (fun _ => False) w p0_0_0 p0_0_1 p0_0_2 p0_0_3 p0_0_4 p0_0_5 p0_1 p0_2 p0_3 p0_4 p0_5 p0_4 false (fun _ hf => hf.elim) ⟨(h38.atI [] rfl hk 3 rfl rfl).1, fun hf => hf.elim, (h38.atI [] rfl hk 3 rfl rfl).2.2⟩ hg45) ?_
    obtain ⟨hc47, h⟩ := of_cond0 h
    refine AnyE.run 8 43 (.string ((((⟨#[97, 100, 100, 32]⟩ : ByteArray) ++ t42) ++ (⟨#[44]⟩ : ByteArray)) ++ t46)) (by kernel_rfl) hS39 (fun _ hk => run_cat (a := (((⟨#[97, 100, 100, 32]⟩ : ByteArray) ++ t42) ++ (⟨#[44]⟩ : ByteArray))) (b := t46) (by kernel_rfl) hc47) ?_
    refine AnyE.pure 9 2 (.string ((((⟨#[97, 100, 100, 32]⟩ : ByteArray) ++ t42) ++ (⟨#[44]⟩ : ByteArray)) ++ t46)) (by kernel_rfl) hS39 (fun _ => by kernel_rfl) ?_
    refine AnyE.done (by kernel_rfl) (fun w48 hu49 => ?_)
    have h50 := h38.call hu49
    refine RunsI.l [2] [(2, .string ((((⟨#[97, 100, 100, 32]⟩ : ByteArray) ++ t42) ++ (⟨#[44]⟩ : ByteArray)) ++ t46))] ?_
    refine RunsI.t (.string ((((⟨#[97, 100, 100, 32]⟩ : ByteArray) ++ t42) ++ (⟨#[44]⟩ : ByteArray)) ++ t46)) ?_
    obtain rfl := Option.some.inj h
    exact ⟨rfl, h50.below⟩
   ·skip
    refine RunsI.f 34 false hc36 ?_
    refine RunsI.b false 30 ?_
    refine RunsI.g 1 [.c 31, .blk 0, .c 63] ?_
    refine RunsI.g 1 [.c 32, .c 33, .blk 0, .c 63] ?_
    refine RunsI.any 10 (by kernel_rfl) (by kernel_rfl) (by kernel_rfl) (Kp ([] : List Nat) (World.drew w1)) ?_
    have h52 := h3.drew
    generalize World.drew w1 = w51 at h52 ⊢
    have hS53 := Kp.refl ([] : List Nat) w51
    refine AnyE.loadBox 0 44 7 126 b2 0 (.agg #[.int .i64 p0_0_0, .int .u8 p0_0_1, .int .u8 p0_0_2, .int .u16 p0_0_3, .int .i64 p0_0_4, .int .i64 p0_0_5, .int .i64 p0_1, .int .i64 p0_2, .int .i64 p0_3, .int .i64 p0_4, .int .i64 p0_5]) [] h52 rfl (by kernel_rfl) hS53 rfl rfl (by kernel_rfl) (by kernel_rfl) ?_
    refine AnyE.pure 1 45 (.pointer (some ⟨b2, 9, none⟩)) (by kernel_rfl) hS53 (fun _ => by kernel_rfl) ?_
    refine AnyE.loadBox 2 46 7 3 b2 9 (.int .i64 p0_4) [] h52 rfl (by kernel_rfl) hS53 rfl rfl (by kernel_rfl) (by kernel_rfl) ?_
    obtain ⟨t56, hg55, h⟩ := of_bind h
    refine AnyE.call 3 47 (.string t56) 147 #[.agg #[.int .i64 p0_0_0, .int .u8 p0_0_1, .int .u8 p0_0_2, .int .u16 p0_0_3, .int .i64 p0_0_4, .int .i64 p0_0_5, .int .i64 p0_1, .int .i64 p0_2, .int .i64 p0_3, .int .i64 p0_4, .int .i64 p0_5], .int .i64 p0_4, .bool false] (by kernel_rfl) hS53 (fun _ => by kernel_rfl) (fun w hk => text_shown_pair_147_ok K (fun _ => False) w p0_0_0 p0_0_1 p0_0_2 p0_0_3 p0_0_4 p0_0_5 p0_1 p0_2 p0_3 p0_4 p0_5 p0_4 false (fun _ hf => hf.elim) ⟨(h52.atI [] rfl hk 3 rfl rfl).1, fun hf => hf.elim, (h52.atI [] rfl hk 3 rfl rfl).2.2⟩ hg55) ?_
    obtain ⟨hc57, h⟩ := of_cond0 h
    refine AnyE.run 4 48 (.string ((⟨#[108, 100, 32]⟩ : ByteArray) ++ t56)) (by kernel_rfl) hS53 (fun _ hk => run_cat (a := (⟨#[108, 100, 32]⟩ : ByteArray)) (b := t56) (by kernel_rfl) hc57) ?_
    obtain ⟨hc58, h⟩ := of_cond0 h
    refine AnyE.run 5 49 (.string (((⟨#[108, 100, 32]⟩ : ByteArray) ++ t56) ++ (⟨#[44]⟩ : ByteArray))) (by kernel_rfl) hS53 (fun _ hk => run_cat (a := ((⟨#[108, 100, 32]⟩ : ByteArray) ++ t56)) (b := (⟨#[44]⟩ : ByteArray)) (by kernel_rfl) hc58) ?_
    refine AnyE.loadBox 6 50 7 126 b2 0 (.agg #[.int .i64 p0_0_0, .int .u8 p0_0_1, .int .u8 p0_0_2, .int .u16 p0_0_3, .int .i64 p0_0_4, .int .i64 p0_0_5, .int .i64 p0_1, .int .i64 p0_2, .int .i64 p0_3, .int .i64 p0_4, .int .i64 p0_5]) [] h52 rfl (by kernel_rfl) hS53 rfl rfl (by kernel_rfl) (by kernel_rfl) ?_
    obtain ⟨t60, hg59, h⟩ := of_bind h
    refine AnyE.call 7 51 (.string t60) 148 #[.agg #[.int .i64 p0_0_0, .int .u8 p0_0_1, .int .u8 p0_0_2, .int .u16 p0_0_3, .int .i64 p0_0_4, .int .i64 p0_0_5, .int .i64 p0_1, .int .i64 p0_2, .int .i64 p0_3, .int .i64 p0_4, .int .i64 p0_5]] (by kernel_rfl) hS53 (fun _ => by kernel_rfl) (fun w hk => text_shown_nn_148_ok K (fun _ => False) w p0_0_0 p0_0_1 p0_0_2 p0_0_3 p0_0_4 p0_0_5 p0_1 p0_2 p0_3 p0_4 p0_5 (fun _ hf => hf.elim) ⟨(h52.atI [] rfl hk 4 rfl rfl).1, fun hf => hf.elim, (h52.atI [] rfl hk 4 rfl rfl).2.2⟩ ⟨(h52.atI [] rfl hk 5 rfl rfl).1, fun hf => hf.elim, (h52.atI [] rfl hk 5 rfl rfl).2.2⟩ ⟨(h52.atI [] rfl hk 6 rfl rfl).1, fun hf => hf.elim, (h52.atI [] rfl hk 6 rfl rfl).2.2⟩ hg59) ?_
    obtain ⟨hc61, h⟩ := of_cond0 h
    refine AnyE.run 8 52 (.string ((((⟨#[108, 100, 32]⟩ : ByteArray) ++ t56) ++ (⟨#[44]⟩ : ByteArray)) ++ t60)) (by kernel_rfl) hS53 (fun _ hk => run_cat (a := (((⟨#[108, 100, 32]⟩ : ByteArray) ++ t56) ++ (⟨#[44]⟩ : ByteArray))) (b := t60) (by kernel_rfl) hc61) ?_
    refine AnyE.pure 9 2 (.string ((((⟨#[108, 100, 32]⟩ : ByteArray) ++ t56) ++ (⟨#[44]⟩ : ByteArray)) ++ t60)) (by kernel_rfl) hS53 (fun _ => by kernel_rfl) ?_
    refine AnyE.done (by kernel_rfl) (fun w62 hu63 => ?_)
    have h64 := h52.call hu63
    refine RunsI.l [2] [(2, .string ((((⟨#[108, 100, 32]⟩ : ByteArray) ++ t56) ++ (⟨#[44]⟩ : ByteArray)) ++ t60))] ?_
    refine RunsI.t (.string ((((⟨#[108, 100, 32]⟩ : ByteArray) ++ t56) ++ (⟨#[44]⟩ : ByteArray)) ++ t60)) ?_
    obtain rfl := Option.some.inj h
    exact ⟨rfl, h64.below⟩
  ·skip
   refine RunsI.f 30 false hc35 ?_
   refine RunsI.b false 34 ?_
   refine RunsI.g 1 [.c 35, .c 36, .blk 0, .c 63] ?_
   refine RunsI.r ?_
   refine RegI.p 2 [(1, .pointer (some ⟨b2, 0, none⟩)), (4, .int .i64 p0_3), (53, .bool (p0_3 == 2))] ?_
   refine RegI.d ?_
   rcases of_cond h with ⟨hc65, h⟩ | ⟨hc65, h⟩
   ·skip
    refine RunsI.f 53 true hc65 ?_
    refine RunsI.b true 37 ?_
    refine RunsI.g 1 [.c 38, .c 39, .blk 0, .c 63] ?_
    refine RunsI.r ?_
    refine RegI.o (OpE.loadBox 55 7 126 b2 0 (.agg #[.int .i64 p0_0_0, .int .u8 p0_0_1, .int .u8 p0_0_2, .int .u16 p0_0_3, .int .i64 p0_0_4, .int .i64 p0_0_5, .int .i64 p0_1, .int .i64 p0_2, .int .i64 p0_3, .int .i64 p0_4, .int .i64 p0_5]) h3 (by kernel_rfl) (by kernel_rfl) rfl (by kernel_rfl) ?_)
    obtain ⟨t70, hg69, h⟩ := of_bind h
    refine RegI.o (OpE.call 56 (by kernel_rfl) 149 #[.agg #[.int .i64 p0_0_0, .int .u8 p0_0_1, .int .u8 p0_0_2, .int .u16 p0_0_3, .int .i64 p0_0_4, .int .i64 p0_0_5, .int .i64 p0_1, .int .i64 p0_2, .int .i64 p0_3, .int .i64 p0_4, .int .i64 p0_5]] (by kernel_rfl) ((text_shown_through_149_ok K _ w1  p0_0_0 p0_0_1 p0_0_2 p0_0_3 p0_0_4 p0_0_5 p0_1 p0_2 p0_3 p0_4 p0_5 h3.old' (h3.get 3 rfl) (h3.get 4 rfl) (h3.get 5 rfl) (h3.get 6 rfl) hg69).mono ?_))
    rintro _ w66 ⟨rfl, hb67⟩
    refine ⟨_, rfl, ?_⟩
    have h68 := h3.call hb67
    refine RegI.p 1 [(2, .string t70)] ?_
    refine RegI.d ?_
    refine RunsI.t (.string t70) ?_
    obtain rfl := Option.some.inj h
    exact ⟨rfl, h68.below⟩
   ·skip
    refine RunsI.f 53 false hc65 ?_
    refine RunsI.b false 40 ?_
    refine RunsI.g 1 [.c 41, .c 42, .blk 0, .c 63] ?_
    refine RunsI.r ?_
    refine RegI.p 2 [(1, .pointer (some ⟨b2, 0, none⟩)), (4, .int .i64 p0_3), (57, .bool (p0_3 == 3))] ?_
    refine RegI.d ?_
    rcases of_cond h with ⟨hc71, h⟩ | ⟨hc71, h⟩
    ·skip
     refine RunsI.f 57 true hc71 ?_
     refine RunsI.b true 43 ?_
     refine RunsI.g 1 [.c 44, .c 45, .blk 0, .c 63] ?_
     refine RunsI.any 10 (by kernel_rfl) (by kernel_rfl) (by kernel_rfl) (Kp ([] : List Nat) (World.drew w1)) ?_
     have h73 := h3.drew
     generalize World.drew w1 = w72 at h73 ⊢
     have hS74 := Kp.refl ([] : List Nat) w72
     refine AnyE.pure 0 59 (.agg #[.string (⟨#[105, 110, 99, 32]⟩ : ByteArray), .string (⟨#[100, 101, 99, 32]⟩ : ByteArray)]) (by kernel_rfl) hS74 (fun _ => by kernel_rfl) ?_
     refine AnyE.pure 1 60 (.pointer (some ⟨b2, 10, none⟩)) (by kernel_rfl) hS74 (fun _ => by kernel_rfl) ?_
     refine AnyE.loadBox 2 61 7 3 b2 10 (.int .i64 p0_5) [] h73 rfl (by kernel_rfl) hS74 rfl rfl (by kernel_rfl) (by kernel_rfl) ?_
     obtain ⟨hc76, h⟩ := of_cond0 h
     refine AnyE.run 3 62 (.string (rdD ([(⟨#[105, 110, 99, 32]⟩ : ByteArray), (⟨#[100, 101, 99, 32]⟩ : ByteArray)] : List ByteArray) p0_5)) (by kernel_rfl) hS74 (fun _ hk => run_indexTab (T0 := 172) (en := (fun (x : ByteArray) => ([.string x] : List Value))) (tab := ([(⟨#[105, 110, 99, 32]⟩ : ByteArray), (⟨#[100, 101, 99, 32]⟩ : ByteArray)] : List ByteArray)) (len := 2) (sz := 1) (j := p0_5) (v := .string (rdD ([(⟨#[105, 110, 99, 32]⟩ : ByteArray), (⟨#[100, 101, 99, 32]⟩ : ByteArray)] : List ByteArray) p0_5)) (fun _ => rfl) (by kernel_rfl) (by kernel_rfl) rfl hc76 (fun _ => by kernel_rfl)) ?_
     refine AnyE.loadBox 4 63 7 126 b2 0 (.agg #[.int .i64 p0_0_0, .int .u8 p0_0_1, .int .u8 p0_0_2, .int .u16 p0_0_3, .int .i64 p0_0_4, .int .i64 p0_0_5, .int .i64 p0_1, .int .i64 p0_2, .int .i64 p0_3, .int .i64 p0_4, .int .i64 p0_5]) [] h73 rfl (by kernel_rfl) hS74 rfl rfl (by kernel_rfl) (by kernel_rfl) ?_
     refine AnyE.pure 5 64 (.pointer (some ⟨b2, 9, none⟩)) (by kernel_rfl) hS74 (fun _ => by kernel_rfl) ?_
     refine AnyE.loadBox 6 65 7 3 b2 9 (.int .i64 p0_4) [] h73 rfl (by kernel_rfl) hS74 rfl rfl (by kernel_rfl) (by kernel_rfl) ?_
     obtain ⟨t78, hg77, h⟩ := of_bind h
     refine AnyE.call 7 66 (.string t78) 147 #[.agg #[.int .i64 p0_0_0, .int .u8 p0_0_1, .int .u8 p0_0_2, .int .u16 p0_0_3, .int .i64 p0_0_4, .int .i64 p0_0_5, .int .i64 p0_1, .int .i64 p0_2, .int .i64 p0_3, .int .i64 p0_4, .int .i64 p0_5], .int .i64 p0_4, .bool false] (by kernel_rfl) hS74 (fun _ => by kernel_rfl) (fun w hk => text_shown_pair_147_ok K (fun _ => False) w p0_0_0 p0_0_1 p0_0_2 p0_0_3 p0_0_4 p0_0_5 p0_1 p0_2 p0_3 p0_4 p0_5 p0_4 false (fun _ hf => hf.elim) ⟨(h73.atI [] rfl hk 3 rfl rfl).1, fun hf => hf.elim, (h73.atI [] rfl hk 3 rfl rfl).2.2⟩ hg77) ?_
     obtain ⟨hc79, h⟩ := of_cond0 h
     refine AnyE.run 8 67 (.string ((rdD ([(⟨#[105, 110, 99, 32]⟩ : ByteArray), (⟨#[100, 101, 99, 32]⟩ : ByteArray)] : List ByteArray) p0_5) ++ t78)) (by kernel_rfl) hS74 (fun _ hk => run_cat (a := (rdD ([(⟨#[105, 110, 99, 32]⟩ : ByteArray), (⟨#[100, 101, 99, 32]⟩ : ByteArray)] : List ByteArray) p0_5)) (b := t78) (by kernel_rfl) hc79) ?_
     refine AnyE.pure 9 2 (.string ((rdD ([(⟨#[105, 110, 99, 32]⟩ : ByteArray), (⟨#[100, 101, 99, 32]⟩ : ByteArray)] : List ByteArray) p0_5) ++ t78)) (by kernel_rfl) hS74 (fun _ => by kernel_rfl) ?_
     refine AnyE.done (by kernel_rfl) (fun w80 hu81 => ?_)
     have h82 := h73.call hu81
     refine RunsI.l [2] [(2, .string ((rdD ([(⟨#[105, 110, 99, 32]⟩ : ByteArray), (⟨#[100, 101, 99, 32]⟩ : ByteArray)] : List ByteArray) p0_5) ++ t78))] ?_
     refine RunsI.t (.string ((rdD ([(⟨#[105, 110, 99, 32]⟩ : ByteArray), (⟨#[100, 101, 99, 32]⟩ : ByteArray)] : List ByteArray) p0_5) ++ t78)) ?_
     obtain rfl := Option.some.inj h
     exact ⟨rfl, h82.below⟩
    ·skip
     refine RunsI.f 57 false hc71 ?_
     refine RunsI.b false 46 ?_
     refine RunsI.g 2 [.c 48, .c 49, .c 52, .blk 0, .c 63] ?_
     refine RunsI.r ?_
     refine RegI.p 2 [(1, .pointer (some ⟨b2, 0, none⟩)), (4, .int .i64 p0_3), (68, .bool (p0_3 == 4))] ?_
     refine RegI.d ?_
     obtain ⟨j87, hJ88, h⟩ := of_let h
     have hj89 : ∀ (t84 : Bool) (w86 : World), j87 t84 = some r → Holds M0 w0 w86 [box b2 126 [.int .i64 p0_0_0, .int .u8 p0_0_1, .int .u8 p0_0_2, .int .u16 p0_0_3, .int .i64 p0_0_4, .int .i64 p0_0_5, .int .i64 p0_1, .int .i64 p0_2, .int .i64 p0_3, .int .i64 p0_4, .int .i64 p0_5], gl 1 (tab_1.flatMap en_1), gl 2 (tab_2.flatMap en_2), gl 6 (tab_6.flatMap en_6), gl 7 (tab_7.flatMap en_7), gl 12 (tab_12.flatMap en_12), gl 15 (tab_15.flatMap en_15), gl 16 (tab_16.flatMap en_16)] → RunsI F94 [.c 52, .blk 0, .c 63] [(1, .pointer (some ⟨b2, 0, none⟩)), (4, .int .i64 p0_3), (68, .bool t84)] w86 (text_shown_low_94.post M0 w0 r) := by
      intro t84 w86 h h85
      rw [hJ88] at h
      clear hJ88
      dsimp only at h
      rcases of_cond h with ⟨hc90, h⟩ | ⟨hc90, h⟩
      ·skip
       refine RunsI.f 68 true hc90 ?_
       refine RunsI.b true 53 ?_
       refine RunsI.g 1 [.c 54, .c 55, .blk 0, .c 63] ?_
       refine RunsI.any 11 (by kernel_rfl) (by kernel_rfl) (by kernel_rfl) (Kp ([] : List Nat) (World.drew w86)) ?_
       have h92 := h85.drew
       generalize World.drew w86 = w91 at h92 ⊢
       have hS93 := Kp.refl ([] : List Nat) w91
       refine AnyE.pure 0 71 (.agg #[.string (⟨#[105, 110, 99, 32]⟩ : ByteArray), .string (⟨#[100, 101, 99, 32]⟩ : ByteArray)]) (by kernel_rfl) hS93 (fun _ => by kernel_rfl) ?_
       refine AnyE.pure 1 72 (.pointer (some ⟨b2, 8, none⟩)) (by kernel_rfl) hS93 (fun _ => by kernel_rfl) ?_
       refine AnyE.loadBox 2 73 0 3 b2 8 (.int .i64 p0_3) [] h92 rfl (by kernel_rfl) hS93 rfl rfl (by kernel_rfl) (by kernel_rfl) ?_
       refine AnyE.pure 3 74 (.int .i64 (IntKind.wrap .i64 (p0_3 - 4))) (by kernel_rfl) hS93 (fun _ => by kernel_rfl) ?_
       obtain ⟨hc95, h⟩ := of_cond0 h
       refine AnyE.run 4 75 (.string (rdD ([(⟨#[105, 110, 99, 32]⟩ : ByteArray), (⟨#[100, 101, 99, 32]⟩ : ByteArray)] : List ByteArray) (IntKind.wrap .i64 (p0_3 - 4)))) (by kernel_rfl) hS93 (fun _ hk => run_indexTab (T0 := 172) (en := (fun (x : ByteArray) => ([.string x] : List Value))) (tab := ([(⟨#[105, 110, 99, 32]⟩ : ByteArray), (⟨#[100, 101, 99, 32]⟩ : ByteArray)] : List ByteArray)) (len := 2) (sz := 1) (j := (IntKind.wrap .i64 (p0_3 - 4))) (v := .string (rdD ([(⟨#[105, 110, 99, 32]⟩ : ByteArray), (⟨#[100, 101, 99, 32]⟩ : ByteArray)] : List ByteArray) (IntKind.wrap .i64 (p0_3 - 4)))) (fun _ => rfl) (by kernel_rfl) (by kernel_rfl) rfl hc95 (fun _ => by kernel_rfl)) ?_
       refine AnyE.loadBox 5 76 0 126 b2 0 (.agg #[.int .i64 p0_0_0, .int .u8 p0_0_1, .int .u8 p0_0_2, .int .u16 p0_0_3, .int .i64 p0_0_4, .int .i64 p0_0_5, .int .i64 p0_1, .int .i64 p0_2, .int .i64 p0_3, .int .i64 p0_4, .int .i64 p0_5]) [] h92 rfl (by kernel_rfl) hS93 rfl rfl (by kernel_rfl) (by kernel_rfl) ?_
       refine AnyE.pure 6 77 (.pointer (some ⟨b2, 7, none⟩)) (by kernel_rfl) hS93 (fun _ => by kernel_rfl) ?_
       refine AnyE.loadBox 7 78 0 3 b2 7 (.int .i64 p0_2) [] h92 rfl (by kernel_rfl) hS93 rfl rfl (by kernel_rfl) (by kernel_rfl) ?_
       obtain ⟨t97, hg96, h⟩ := of_bind h
       refine AnyE.call 8 79 (.string t97) 150 #[.agg #[.int .i64 p0_0_0, .int .u8 p0_0_1, .int .u8 p0_0_2, .int .u16 p0_0_3, .int .i64 p0_0_4, .int .i64 p0_0_5, .int .i64 p0_1, .int .i64 p0_2, .int .i64 p0_3, .int .i64 p0_4, .int .i64 p0_5], .int .i64 p0_2] (by kernel_rfl) hS93 (fun _ => by kernel_rfl) (fun w hk => text_shown_reg_150_ok K (fun _ => False) w p0_0_0 p0_0_1 p0_0_2 p0_0_3 p0_0_4 p0_0_5 p0_1 p0_2 p0_3 p0_4 p0_5 p0_2 (fun _ hf => hf.elim) ⟨(h92.atI [] rfl hk 3 rfl rfl).1, fun hf => hf.elim, (h92.atI [] rfl hk 3 rfl rfl).2.2⟩ ⟨(h92.atI [] rfl hk 5 rfl rfl).1, fun hf => hf.elim, (h92.atI [] rfl hk 5 rfl rfl).2.2⟩ hg96) ?_
       obtain ⟨hc98, h⟩ := of_cond0 h
       refine AnyE.run 9 80 (.string ((rdD ([(⟨#[105, 110, 99, 32]⟩ : ByteArray), (⟨#[100, 101, 99, 32]⟩ : ByteArray)] : List ByteArray) (IntKind.wrap .i64 (p0_3 - 4))) ++ t97)) (by kernel_rfl) hS93 (fun _ hk => run_cat (a := (rdD ([(⟨#[105, 110, 99, 32]⟩ : ByteArray), (⟨#[100, 101, 99, 32]⟩ : ByteArray)] : List ByteArray) (IntKind.wrap .i64 (p0_3 - 4)))) (b := t97) (by kernel_rfl) hc98) ?_
       refine AnyE.pure 10 2 (.string ((rdD ([(⟨#[105, 110, 99, 32]⟩ : ByteArray), (⟨#[100, 101, 99, 32]⟩ : ByteArray)] : List ByteArray) (IntKind.wrap .i64 (p0_3 - 4))) ++ t97)) (by kernel_rfl) hS93 (fun _ => by kernel_rfl) ?_
       refine AnyE.done (by kernel_rfl) (fun w99 hu100 => ?_)
       have h101 := h92.call hu100
       refine RunsI.l [2] [(2, .string ((rdD ([(⟨#[105, 110, 99, 32]⟩ : ByteArray), (⟨#[100, 101, 99, 32]⟩ : ByteArray)] : List ByteArray) (IntKind.wrap .i64 (p0_3 - 4))) ++ t97))] ?_
       refine RunsI.t (.string ((rdD ([(⟨#[105, 110, 99, 32]⟩ : ByteArray), (⟨#[100, 101, 99, 32]⟩ : ByteArray)] : List ByteArray) (IntKind.wrap .i64 (p0_3 - 4))) ++ t97)) ?_
       obtain rfl := Option.some.inj h
       exact ⟨rfl, h101.below⟩
      ·skip
       refine RunsI.f 68 false hc90 ?_
       refine RunsI.b false 56 ?_
       refine RunsI.g 1 [.c 57, .c 58, .blk 0, .c 63] ?_
       refine RunsI.r ?_
       refine RegI.p 2 [(1, .pointer (some ⟨b2, 0, none⟩)), (81, .bool (p0_3 == 6))] ?_
       refine RegI.d ?_
       rcases of_cond h with ⟨hc102, h⟩ | ⟨hc102, h⟩
       ·skip
        refine RunsI.f 81 true hc102 ?_
        refine RunsI.b true 59 ?_
        refine RunsI.g 1 [.c 60, .c 61, .blk 0, .c 63] ?_
        refine RunsI.any 10 (by kernel_rfl) (by kernel_rfl) (by kernel_rfl) (Kp ([] : List Nat) (World.drew w86)) ?_
        have h104 := h85.drew
        generalize World.drew w86 = w103 at h104 ⊢
        have hS105 := Kp.refl ([] : List Nat) w103
        refine AnyE.loadBox 0 83 0 126 b2 0 (.agg #[.int .i64 p0_0_0, .int .u8 p0_0_1, .int .u8 p0_0_2, .int .u16 p0_0_3, .int .i64 p0_0_4, .int .i64 p0_0_5, .int .i64 p0_1, .int .i64 p0_2, .int .i64 p0_3, .int .i64 p0_4, .int .i64 p0_5]) [] h104 rfl (by kernel_rfl) hS105 rfl rfl (by kernel_rfl) (by kernel_rfl) ?_
        refine AnyE.pure 1 84 (.pointer (some ⟨b2, 7, none⟩)) (by kernel_rfl) hS105 (fun _ => by kernel_rfl) ?_
        refine AnyE.loadBox 2 85 0 3 b2 7 (.int .i64 p0_2) [] h104 rfl (by kernel_rfl) hS105 rfl rfl (by kernel_rfl) (by kernel_rfl) ?_
        obtain ⟨t108, hg107, h⟩ := of_bind h
        refine AnyE.call 3 86 (.string t108) 150 #[.agg #[.int .i64 p0_0_0, .int .u8 p0_0_1, .int .u8 p0_0_2, .int .u16 p0_0_3, .int .i64 p0_0_4, .int .i64 p0_0_5, .int .i64 p0_1, .int .i64 p0_2, .int .i64 p0_3, .int .i64 p0_4, .int .i64 p0_5], .int .i64 p0_2] (by kernel_rfl) hS105 (fun _ => by kernel_rfl) (fun w hk => text_shown_reg_150_ok K (fun _ => False) w p0_0_0 p0_0_1 p0_0_2 p0_0_3 p0_0_4 p0_0_5 p0_1 p0_2 p0_3 p0_4 p0_5 p0_2 (fun _ hf => hf.elim) ⟨(h104.atI [] rfl hk 3 rfl rfl).1, fun hf => hf.elim, (h104.atI [] rfl hk 3 rfl rfl).2.2⟩ ⟨(h104.atI [] rfl hk 5 rfl rfl).1, fun hf => hf.elim, (h104.atI [] rfl hk 5 rfl rfl).2.2⟩ hg107) ?_
        obtain ⟨hc109, h⟩ := of_cond0 h
        refine AnyE.run 4 87 (.string ((⟨#[108, 100, 32]⟩ : ByteArray) ++ t108)) (by kernel_rfl) hS105 (fun _ hk => run_cat (a := (⟨#[108, 100, 32]⟩ : ByteArray)) (b := t108) (by kernel_rfl) hc109) ?_
        obtain ⟨hc110, h⟩ := of_cond0 h
        refine AnyE.run 5 88 (.string (((⟨#[108, 100, 32]⟩ : ByteArray) ++ t108) ++ (⟨#[44]⟩ : ByteArray))) (by kernel_rfl) hS105 (fun _ hk => run_cat (a := ((⟨#[108, 100, 32]⟩ : ByteArray) ++ t108)) (b := (⟨#[44]⟩ : ByteArray)) (by kernel_rfl) hc110) ?_
        refine AnyE.loadBox 6 89 0 126 b2 0 (.agg #[.int .i64 p0_0_0, .int .u8 p0_0_1, .int .u8 p0_0_2, .int .u16 p0_0_3, .int .i64 p0_0_4, .int .i64 p0_0_5, .int .i64 p0_1, .int .i64 p0_2, .int .i64 p0_3, .int .i64 p0_4, .int .i64 p0_5]) [] h104 rfl (by kernel_rfl) hS105 rfl rfl (by kernel_rfl) (by kernel_rfl) ?_
        obtain ⟨t112, hg111, h⟩ := of_bind h
        refine AnyE.call 7 90 (.string t112) 151 #[.agg #[.int .i64 p0_0_0, .int .u8 p0_0_1, .int .u8 p0_0_2, .int .u16 p0_0_3, .int .i64 p0_0_4, .int .i64 p0_0_5, .int .i64 p0_1, .int .i64 p0_2, .int .i64 p0_3, .int .i64 p0_4, .int .i64 p0_5]] (by kernel_rfl) hS105 (fun _ => by kernel_rfl) (fun w hk => text_shown_n_151_ok K (fun _ => False) w p0_0_0 p0_0_1 p0_0_2 p0_0_3 p0_0_4 p0_0_5 p0_1 p0_2 p0_3 p0_4 p0_5 (fun _ hf => hf.elim) ⟨(h104.atI [] rfl hk 5 rfl rfl).1, fun hf => hf.elim, (h104.atI [] rfl hk 5 rfl rfl).2.2⟩ ⟨(h104.atI [] rfl hk 6 rfl rfl).1, fun hf => hf.elim, (h104.atI [] rfl hk 6 rfl rfl).2.2⟩ ⟨(h104.atI [] rfl hk 7 rfl rfl).1, fun hf => hf.elim, (h104.atI [] rfl hk 7 rfl rfl).2.2⟩ hg111) ?_
        obtain ⟨hc113, h⟩ := of_cond0 h
        refine AnyE.run 8 91 (.string ((((⟨#[108, 100, 32]⟩ : ByteArray) ++ t108) ++ (⟨#[44]⟩ : ByteArray)) ++ t112)) (by kernel_rfl) hS105 (fun _ hk => run_cat (a := (((⟨#[108, 100, 32]⟩ : ByteArray) ++ t108) ++ (⟨#[44]⟩ : ByteArray))) (b := t112) (by kernel_rfl) hc113) ?_
        refine AnyE.pure 9 2 (.string ((((⟨#[108, 100, 32]⟩ : ByteArray) ++ t108) ++ (⟨#[44]⟩ : ByteArray)) ++ t112)) (by kernel_rfl) hS105 (fun _ => by kernel_rfl) ?_
        refine AnyE.done (by kernel_rfl) (fun w114 hu115 => ?_)
        have h116 := h104.call hu115
        refine RunsI.l [2] [(2, .string ((((⟨#[108, 100, 32]⟩ : ByteArray) ++ t108) ++ (⟨#[44]⟩ : ByteArray)) ++ t112))] ?_
        refine RunsI.t (.string ((((⟨#[108, 100, 32]⟩ : ByteArray) ++ t108) ++ (⟨#[44]⟩ : ByteArray)) ++ t112)) ?_
        obtain rfl := Option.some.inj h
        exact ⟨rfl, h116.below⟩
       ·skip
        refine RunsI.f 81 false hc102 ?_
        refine RunsI.b false 62 ?_
        refine RunsI.g 1 [.blk 0, .c 63] ?_
        refine RunsI.g 2 [.c 64, .c 65] ?_
        refine RunsI.r ?_
        refine RegI.p 1 [(92, .pointer (some ⟨b2, 7, none⟩))] ?_
        refine RegI.o (OpE.loadBox 93 0 3 b2 7 (.int .i64 p0_2) h85 (by kernel_rfl) (by kernel_rfl) rfl (by kernel_rfl) ?_)
        obtain ⟨hc117, h⟩ := of_cond0 h
        refine RegI.o (OpE.run 94 (by kernel_rfl) (run_idxArr (T := 169) (b := 2) (o := 0) (ix := p0_2) (len := 8) (s := 1) (by kernel_rfl) (by kernel_rfl) hc117) ?_)
        refine RegI.o (OpE.loadTab 95 2 9 en_2 tab_2 0 1 p0_2 (.string (rdD tab_2 p0_2)) (o := 0 + (Int.toNat p0_2) * 1 + 0) h85 (by kernel_rfl) rfl (fun _ => rfl) (by kernel_rfl) (by omega) hc117 (fun _ => by kernel_rfl) ?_)
        refine RegI.p 1 [(2, .string (rdD tab_2 p0_2))] ?_
        refine RegI.d ?_
        refine RunsI.t (.string (rdD tab_2 p0_2)) ?_
        obtain rfl := Option.some.inj h
        exact ⟨rfl, h85.below⟩
     clear hJ88
     rcases of_cond h with ⟨hc83, h⟩ | ⟨hc83, h⟩
     ·skip
      refine RunsI.f 68 true hc83 ?_
      refine RunsI.b true 50 ?_
      refine RunsI.g 1 [.c 52, .blk 0, .c 63] ?_
      refine RunsI.l [1, 4, 68] [(1, .pointer (some ⟨b2, 0, none⟩)), (4, .int .i64 p0_3), (68, .bool true)] ?_
      exact hj89 true w1 h (h3.pick [7, 0, 1, 2, 3, 4, 5, 6] (by decide))
     ·skip
      refine RunsI.f 68 false hc83 ?_
      refine RunsI.b false 51 ?_
      refine RunsI.r ?_
      refine RegI.p 2 [(1, .pointer (some ⟨b2, 0, none⟩)), (4, .int .i64 p0_3), (68, .bool (p0_3 == 5))] ?_
      refine RegI.d ?_
      refine RunsI.l [1, 4, 68] [(1, .pointer (some ⟨b2, 0, none⟩)), (4, .int .i64 p0_3), (68, .bool (p0_3 == 5))] ?_
      exact hj89 (p0_3 == 5) w1 h (h3.pick [7, 0, 1, 2, 3, 4, 5, 6] (by decide))
end

/-! ### (charabanc/text.shown).moves (function 95) -/
section
def text_shown_moves_95.post (M0 : Nat → Prop) (w0 : World) (r : ByteArray) : Ending → World → Prop := fun e w => e = .returned (.string r) ∧ Below w0.heap.size w0 w
def text_shown_moves_95.f (K : Nat) (p0_0_0 : Int) (p0_0_1 : Int) (p0_0_2 : Int) (p0_0_3 : Int) (p0_0_4 : Int) (p0_0_5 : Int) (p0_1 : Int) (p0_2 : Int) (p0_3 : Int) (p0_4 : Int) (p0_5 : Int) : Option ByteArray := Let (fun (t7 : Bool) => cond t7 (some (⟨#[104, 97, 108, 116]⟩ : ByteArray)) ((text_shown_reg_150.f K p0_0_0 p0_0_1 p0_0_2 p0_0_3 p0_0_4 p0_0_5 p0_1 p0_2 p0_3 p0_4 p0_5 p0_2).bind fun t19 => cond (mayCat (⟨#[108, 100, 32]⟩ : ByteArray).size t19.size) (cond (mayCat ((⟨#[108, 100, 32]⟩ : ByteArray) ++ t19).size (⟨#[44]⟩ : ByteArray).size) ((text_shown_reg_150.f K p0_0_0 p0_0_1 p0_0_2 p0_0_3 p0_0_4 p0_0_5 p0_1 p0_2 p0_3 p0_4 p0_5 p0_3).bind fun t23 => cond (mayCat (((⟨#[108, 100, 32]⟩ : ByteArray) ++ t19) ++ (⟨#[44]⟩ : ByteArray)).size t23.size) (some ((((⟨#[108, 100, 32]⟩ : ByteArray) ++ t19) ++ (⟨#[44]⟩ : ByteArray)) ++ t23)) none) none) none)) (fun j10 => cond (p0_2 == 6) (j10 (p0_3 == 6)) (j10 false))
set_option maxRecDepth 100000 in
theorem text_shown_moves_95_ok (K : Nat) (M0 : Nat → Prop) (w0 : World) (p0_0_0 : Int) (p0_0_1 : Int) (p0_0_2 : Int) (p0_0_3 : Int) (p0_0_4 : Int) (p0_0_5 : Int) (p0_1 : Int) (p0_2 : Int) (p0_3 : Int) (p0_4 : Int) (p0_5 : Int) (ho : ∀ b, M0 b → b < w0.heap.size) (hG6 : (gl 6 (tab_6.flatMap en_6)).ok w0 M0) (hG12 : (gl 12 (tab_12.flatMap en_12)).ok w0 M0) {r : ByteArray} (h : text_shown_moves_95.f K p0_0_0 p0_0_1 p0_0_2 p0_0_3 p0_0_4 p0_0_5 p0_1 p0_2 p0_3 p0_4 p0_5 = some r) :
  Calls Tryz.prog 95 #[.agg #[.int .i64 p0_0_0, .int .u8 p0_0_1, .int .u8 p0_0_2, .int .u16 p0_0_3, .int .i64 p0_0_4, .int .i64 p0_0_5, .int .i64 p0_1, .int .i64 p0_2, .int .i64 p0_3, .int .i64 p0_4, .int .i64 p0_5]] w0 (text_shown_moves_95.post M0 w0 r) := by
 unfold text_shown_moves_95.f at h
 have h0 : Holds M0 w0 w0 [] := Holds.start ho
 have h0g6 := h0.add (gl 6 (tab_6.flatMap en_6)) rfl ⟨hG6.1, fun hm => hG6.2.1 (hm.elim id (fun hm => absurd hm (by simp [mines, sl, gl, cel]))), hG6.2.2⟩
 have h0g12 := h0g6.add (gl 12 (tab_12.flatMap en_12)) rfl ⟨hG12.1, fun hm => hG12.2.1 (hm.elim id (fun hm => absurd hm (by simp [mines, sl, gl, cel]))), hG12.2.2⟩
 have h0 : Holds M0 w0 w0 [gl 6 (tab_6.flatMap en_6), gl 12 (tab_12.flatMap en_12)] := h0g12
 refine calls_of F95 rfl [.agg #[.int .i64 p0_0_0, .int .u8 p0_0_1, .int .u8 p0_0_2, .int .u16 p0_0_3, .int .i64 p0_0_4, .int .i64 p0_0_5, .int .i64 p0_1, .int .i64 p0_2, .int .i64 p0_3, .int .i64 p0_4, .int .i64 p0_5]] (by kernel_rfl) ?_
 refine RunsI.g 1 [.c 1, .c 2] ?_
 refine RunsI.r ?_
 refine RegI.o (OpE.box 1 126 [.int .i64 p0_0_0, .int .u8 p0_0_1, .int .u8 p0_0_2, .int .u16 p0_0_3, .int .i64 p0_0_4, .int .i64 p0_0_5, .int .i64 p0_1, .int .i64 p0_2, .int .i64 p0_3, .int .i64 p0_4, .int .i64 p0_5] h0 (by kernel_rfl) (by kernel_rfl) ?_)
 intro w1 b2 h3 hb4 hn5
 refine RegI.p 1 [(1, .pointer (some ⟨b2, 0, none⟩))] ?_
 refine RegI.d ?_
 refine RunsI.g 2 [.c 4, .c 5, .c 10] ?_
 refine RunsI.r ?_
 refine RegI.p 1 [(1, .pointer (some ⟨b2, 0, none⟩)), (3, .pointer (some ⟨b2, 7, none⟩))] ?_
 refine RegI.o (OpE.loadBox 4 2 3 b2 7 (.int .i64 p0_2) h3 (by kernel_rfl) (by kernel_rfl) rfl (by kernel_rfl) ?_)
 refine RegI.p 2 [(1, .pointer (some ⟨b2, 0, none⟩)), (6, .bool (p0_2 == 6))] ?_
 obtain ⟨j10, hJ11, h⟩ := of_let h
 have hj12 : ∀ (t7 : Bool) (w9 : World), j10 t7 = some r → Holds M0 w0 w9 [box b2 126 [.int .i64 p0_0_0, .int .u8 p0_0_1, .int .u8 p0_0_2, .int .u16 p0_0_3, .int .i64 p0_0_4, .int .i64 p0_0_5, .int .i64 p0_1, .int .i64 p0_2, .int .i64 p0_3, .int .i64 p0_4, .int .i64 p0_5], gl 6 (tab_6.flatMap en_6), gl 12 (tab_12.flatMap en_12)] → RegI F95 4 [.c 5, .c 10] 8 [(1, .pointer (some ⟨b2, 0, none⟩)), (10, .bool t7)] w9 (text_shown_moves_95.post M0 w0 r) := by
  intro t7 w9 h h8
  rw [hJ11] at h
  clear hJ11
  dsimp only at h
  refine RegI.d ?_
  rcases of_cond h with ⟨hc13, h⟩ | ⟨hc13, h⟩
  ·skip
   refine RunsI.f 10 true hc13 ?_
   refine RunsI.b true 6 ?_
   refine RunsI.g 1 [.c 7, .c 8, .c 10] ?_
   refine RunsI.r ?_
   refine RegI.p 1 [(2, .string (⟨#[104, 97, 108, 116]⟩ : ByteArray))] ?_
   refine RegI.d ?_
   refine RunsI.t (.string (⟨#[104, 97, 108, 116]⟩ : ByteArray)) ?_
   obtain rfl := Option.some.inj h
   exact ⟨rfl, h8.below⟩
  ·skip
   refine RunsI.f 10 false hc13 ?_
   refine RunsI.b false 9 ?_
   refine RunsI.g 1 [.c 10] ?_
   refine RunsI.g 1 [.c 11, .c 12] ?_
   refine RunsI.any 12 (by kernel_rfl) (by kernel_rfl) (by kernel_rfl) (Kp ([] : List Nat) (World.drew w9)) ?_
   have h15 := h8.drew
   generalize World.drew w9 = w14 at h15 ⊢
   have hS16 := Kp.refl ([] : List Nat) w14
   refine AnyE.loadBox 0 11 0 126 b2 0 (.agg #[.int .i64 p0_0_0, .int .u8 p0_0_1, .int .u8 p0_0_2, .int .u16 p0_0_3, .int .i64 p0_0_4, .int .i64 p0_0_5, .int .i64 p0_1, .int .i64 p0_2, .int .i64 p0_3, .int .i64 p0_4, .int .i64 p0_5]) [] h15 rfl (by kernel_rfl) hS16 rfl rfl (by kernel_rfl) (by kernel_rfl) ?_
   refine AnyE.pure 1 12 (.pointer (some ⟨b2, 7, none⟩)) (by kernel_rfl) hS16 (fun _ => by kernel_rfl) ?_
   refine AnyE.loadBox 2 13 0 3 b2 7 (.int .i64 p0_2) [] h15 rfl (by kernel_rfl) hS16 rfl rfl (by kernel_rfl) (by kernel_rfl) ?_
   obtain ⟨t19, hg18, h⟩ := of_bind h
   refine AnyE.call 3 14 (.string t19) 150 #[.agg #[.int .i64 p0_0_0, .int .u8 p0_0_1, .int .u8 p0_0_2, .int .u16 p0_0_3, .int .i64 p0_0_4, .int .i64 p0_0_5, .int .i64 p0_1, .int .i64 p0_2, .int .i64 p0_3, .int .i64 p0_4, .int .i64 p0_5], .int .i64 p0_2] (by kernel_rfl) hS16 (fun _ => by kernel_rfl) (fun w hk => text_shown_reg_150_ok K (fun _ => False) w p0_0_0 p0_0_1 p0_0_2 p0_0_3 p0_0_4 p0_0_5 p0_1 p0_2 p0_3 p0_4 p0_5 p0_2 (fun _ hf => hf.elim) ⟨(h15.atI [] rfl hk 1 rfl rfl).1, fun hf => hf.elim, (h15.atI [] rfl hk 1 rfl rfl).2.2⟩ ⟨(h15.atI [] rfl hk 2 rfl rfl).1, fun hf => hf.elim, (h15.atI [] rfl hk 2 rfl rfl).2.2⟩ hg18) ?_
   obtain ⟨hc20, h⟩ := of_cond0 h
   refine AnyE.run 4 15 (.string ((⟨#[108, 100, 32]⟩ : ByteArray) ++ t19)) (by kernel_rfl) hS16 (fun _ hk => run_cat (a := (⟨#[108, 100, 32]⟩ : ByteArray)) (b := t19) (by kernel_rfl) hc20) ?_
   obtain ⟨hc21, h⟩ := of_cond0 h
   refine AnyE.run 5 16 (.string (((⟨#[108, 100, 32]⟩ : ByteArray) ++ t19) ++ (⟨#[44]⟩ : ByteArray))) (by kernel_rfl) hS16 (fun _ hk => run_cat (a := ((⟨#[108, 100, 32]⟩ : ByteArray) ++ t19)) (b := (⟨#[44]⟩ : ByteArray)) (by kernel_rfl) hc21) ?_
   refine AnyE.loadBox 6 17 0 126 b2 0 (.agg #[.int .i64 p0_0_0, .int .u8 p0_0_1, .int .u8 p0_0_2, .int .u16 p0_0_3, .int .i64 p0_0_4, .int .i64 p0_0_5, .int .i64 p0_1, .int .i64 p0_2, .int .i64 p0_3, .int .i64 p0_4, .int .i64 p0_5]) [] h15 rfl (by kernel_rfl) hS16 rfl rfl (by kernel_rfl) (by kernel_rfl) ?_
   refine AnyE.pure 7 18 (.pointer (some ⟨b2, 8, none⟩)) (by kernel_rfl) hS16 (fun _ => by kernel_rfl) ?_
   refine AnyE.loadBox 8 19 0 3 b2 8 (.int .i64 p0_3) [] h15 rfl (by kernel_rfl) hS16 rfl rfl (by kernel_rfl) (by kernel_rfl) ?_
   obtain ⟨t23, hg22, h⟩ := of_bind h
   refine AnyE.call 9 20 (.string t23) 150 #[.agg #[.int .i64 p0_0_0, .int .u8 p0_0_1, .int .u8 p0_0_2, .int .u16 p0_0_3, .int .i64 p0_0_4, .int .i64 p0_0_5, .int .i64 p0_1, .int .i64 p0_2, .int .i64 p0_3, .int .i64 p0_4, .int .i64 p0_5], .int .i64 p0_3] (by kernel_rfl) hS16 (fun _ => by kernel_rfl) (fun w hk => text_shown_reg_150_ok K (fun _ => False) w p0_0_0 p0_0_1 p0_0_2 p0_0_3 p0_0_4 p0_0_5 p0_1 p0_2 p0_3 p0_4 p0_5 p0_3 (fun _ hf => hf.elim) ⟨(h15.atI [] rfl hk 1 rfl rfl).1, fun hf => hf.elim, (h15.atI [] rfl hk 1 rfl rfl).2.2⟩ ⟨(h15.atI [] rfl hk 2 rfl rfl).1, fun hf => hf.elim, (h15.atI [] rfl hk 2 rfl rfl).2.2⟩ hg22) ?_
   obtain ⟨hc24, h⟩ := of_cond0 h
   refine AnyE.run 10 21 (.string ((((⟨#[108, 100, 32]⟩ : ByteArray) ++ t19) ++ (⟨#[44]⟩ : ByteArray)) ++ t23)) (by kernel_rfl) hS16 (fun _ hk => run_cat (a := (((⟨#[108, 100, 32]⟩ : ByteArray) ++ t19) ++ (⟨#[44]⟩ : ByteArray))) (b := t23) (by kernel_rfl) hc24) ?_
   refine AnyE.pure 11 2 (.string ((((⟨#[108, 100, 32]⟩ : ByteArray) ++ t19) ++ (⟨#[44]⟩ : ByteArray)) ++ t23)) (by kernel_rfl) hS16 (fun _ => by kernel_rfl) ?_
   refine AnyE.done (by kernel_rfl) (fun w25 hu26 => ?_)
   have h27 := h15.call hu26
   refine RunsI.l [2] [(2, .string ((((⟨#[108, 100, 32]⟩ : ByteArray) ++ t19) ++ (⟨#[44]⟩ : ByteArray)) ++ t23))] ?_
   refine RunsI.t (.string ((((⟨#[108, 100, 32]⟩ : ByteArray) ++ t19) ++ (⟨#[44]⟩ : ByteArray)) ++ t23)) ?_
   obtain rfl := Option.some.inj h
   exact ⟨rfl, h27.below⟩
 clear hJ11
 rcases of_cond h with ⟨hc6, h⟩ | ⟨hc6, h⟩
 ·skip
  refine RegI.f 6 true hc6 ?_
  refine RegI.p 1 [(1, .pointer (some ⟨b2, 0, none⟩)), (6, .bool true), (7, .pointer (some ⟨b2, 8, none⟩))] ?_
  refine RegI.o (OpE.loadBox 8 2 3 b2 8 (.int .i64 p0_3) h3 (by kernel_rfl) (by kernel_rfl) rfl (by kernel_rfl) ?_)
  refine RegI.p 2 [(1, .pointer (some ⟨b2, 0, none⟩)), (10, .bool (p0_3 == 6))] ?_
  refine RegI.l [1, 10] [(1, .pointer (some ⟨b2, 0, none⟩)), (10, .bool (p0_3 == 6))] ?_
  exact hj12 (p0_3 == 6) w1 h (h3.pick [2, 0, 1] (by decide))
 ·skip
  refine RegI.f 6 false hc6 ?_
  refine RegI.p 4 [(1, .pointer (some ⟨b2, 0, none⟩)), (10, .bool false)] ?_
  refine RegI.l [1, 10] [(1, .pointer (some ⟨b2, 0, none⟩)), (10, .bool false)] ?_
  exact hj12 false w1 h (h3.pick [2, 0, 1] (by decide))
end

/-! ### (charabanc/text.shown).sums (function 96) -/
section
def text_shown_sums_96.post (M0 : Nat → Prop) (w0 : World) (r : ByteArray) : Ending → World → Prop := fun e w => e = .returned (.string r) ∧ Below w0.heap.size w0 w
def text_shown_sums_96.f (K : Nat) (p0_0_0 : Int) (p0_0_1 : Int) (p0_0_2 : Int) (p0_0_3 : Int) (p0_0_4 : Int) (p0_0_5 : Int) (p0_1 : Int) (p0_2 : Int) (p0_3 : Int) (p0_4 : Int) (p0_5 : Int) : Option ByteArray := cond (inR p0_2 8) ((text_shown_reg_150.f K p0_0_0 p0_0_1 p0_0_2 p0_0_3 p0_0_4 p0_0_5 p0_1 p0_2 p0_3 p0_4 p0_5 p0_3).bind fun t12 => cond (mayCat (rdD tab_3 p0_2).size t12.size) (some ((rdD tab_3 p0_2) ++ t12)) none) none
set_option maxRecDepth 100000 in
theorem text_shown_sums_96_ok (K : Nat) (M0 : Nat → Prop) (w0 : World) (p0_0_0 : Int) (p0_0_1 : Int) (p0_0_2 : Int) (p0_0_3 : Int) (p0_0_4 : Int) (p0_0_5 : Int) (p0_1 : Int) (p0_2 : Int) (p0_3 : Int) (p0_4 : Int) (p0_5 : Int) (ho : ∀ b, M0 b → b < w0.heap.size) (hG3 : (gl 3 (tab_3.flatMap en_3)).ok w0 M0) (hG6 : (gl 6 (tab_6.flatMap en_6)).ok w0 M0) (hG12 : (gl 12 (tab_12.flatMap en_12)).ok w0 M0) {r : ByteArray} (h : text_shown_sums_96.f K p0_0_0 p0_0_1 p0_0_2 p0_0_3 p0_0_4 p0_0_5 p0_1 p0_2 p0_3 p0_4 p0_5 = some r) :
  Calls Tryz.prog 96 #[.agg #[.int .i64 p0_0_0, .int .u8 p0_0_1, .int .u8 p0_0_2, .int .u16 p0_0_3, .int .i64 p0_0_4, .int .i64 p0_0_5, .int .i64 p0_1, .int .i64 p0_2, .int .i64 p0_3, .int .i64 p0_4, .int .i64 p0_5]] w0 (text_shown_sums_96.post M0 w0 r) := by
 unfold text_shown_sums_96.f at h
 have h0 : Holds M0 w0 w0 [] := Holds.start ho
 have h0g3 := h0.add (gl 3 (tab_3.flatMap en_3)) rfl ⟨hG3.1, fun hm => hG3.2.1 (hm.elim id (fun hm => absurd hm (by simp [mines, sl, gl, cel]))), hG3.2.2⟩
 have h0g6 := h0g3.add (gl 6 (tab_6.flatMap en_6)) rfl ⟨hG6.1, fun hm => hG6.2.1 (hm.elim id (fun hm => absurd hm (by simp [mines, sl, gl, cel]))), hG6.2.2⟩
 have h0g12 := h0g6.add (gl 12 (tab_12.flatMap en_12)) rfl ⟨hG12.1, fun hm => hG12.2.1 (hm.elim id (fun hm => absurd hm (by simp [mines, sl, gl, cel]))), hG12.2.2⟩
 have h0 : Holds M0 w0 w0 [gl 3 (tab_3.flatMap en_3), gl 6 (tab_6.flatMap en_6), gl 12 (tab_12.flatMap en_12)] := h0g12
 refine calls_of F96 rfl [.agg #[.int .i64 p0_0_0, .int .u8 p0_0_1, .int .u8 p0_0_2, .int .u16 p0_0_3, .int .i64 p0_0_4, .int .i64 p0_0_5, .int .i64 p0_1, .int .i64 p0_2, .int .i64 p0_3, .int .i64 p0_4, .int .i64 p0_5]] (by kernel_rfl) ?_
 refine RunsI.g 1 [.c 1, .c 2] ?_
 refine RunsI.r ?_
 refine RegI.o (OpE.box 1 126 [.int .i64 p0_0_0, .int .u8 p0_0_1, .int .u8 p0_0_2, .int .u16 p0_0_3, .int .i64 p0_0_4, .int .i64 p0_0_5, .int .i64 p0_1, .int .i64 p0_2, .int .i64 p0_3, .int .i64 p0_4, .int .i64 p0_5] h0 (by kernel_rfl) (by kernel_rfl) ?_)
 intro w1 b2 h3 hb4 hn5
 refine RegI.p 1 [(1, .pointer (some ⟨b2, 0, none⟩))] ?_
 refine RegI.d ?_
 refine RunsI.g 1 [.c 3, .c 4] ?_
 refine RunsI.any 10 (by kernel_rfl) (by kernel_rfl) (by kernel_rfl) (Kp ([] : List Nat) (World.drew w1)) ?_
 have h7 := h3.drew
 generalize World.drew w1 = w6 at h7 ⊢
 have hS8 := Kp.refl ([] : List Nat) w6
 refine AnyE.pure 0 3 (.pointer (some ⟨b2, 7, none⟩)) (by kernel_rfl) hS8 (fun _ => by kernel_rfl) ?_
 refine AnyE.loadBox 1 4 3 3 b2 7 (.int .i64 p0_2) [] h7 rfl (by kernel_rfl) hS8 rfl rfl (by kernel_rfl) (by kernel_rfl) ?_
 obtain ⟨hc10, h⟩ := of_cond0 h
 refine AnyE.run 2 5 (.pointer (some ⟨3, 0 + (Int.toNat p0_2) * 1, none⟩)) (by kernel_rfl) hS8 (fun _ hk => run_idxArr (T := 169) (b := 3) (o := 0) (ix := p0_2) (len := 8) (s := 1) (by kernel_rfl) (by kernel_rfl) hc10) ?_
 refine AnyE.loadTab 3 6 0 9 en_3 tab_3 0 1 p0_2 (.string (rdD tab_3 p0_2)) [] (o := 0 + (Int.toNat p0_2) * 1 + 0) h7 rfl (by kernel_rfl) hS8 rfl rfl (fun _ => rfl) (by kernel_rfl) (by omega) hc10 (fun _ => by kernel_rfl) ?_
 refine AnyE.loadBox 4 7 3 126 b2 0 (.agg #[.int .i64 p0_0_0, .int .u8 p0_0_1, .int .u8 p0_0_2, .int .u16 p0_0_3, .int .i64 p0_0_4, .int .i64 p0_0_5, .int .i64 p0_1, .int .i64 p0_2, .int .i64 p0_3, .int .i64 p0_4, .int .i64 p0_5]) [] h7 rfl (by kernel_rfl) hS8 rfl rfl (by kernel_rfl) (by kernel_rfl) ?_
 refine AnyE.pure 5 8 (.pointer (some ⟨b2, 8, none⟩)) (by kernel_rfl) hS8 (fun _ => by kernel_rfl) ?_
 refine AnyE.loadBox 6 9 3 3 b2 8 (.int .i64 p0_3) [] h7 rfl (by kernel_rfl) hS8 rfl rfl (by kernel_rfl) (by kernel_rfl) ?_
 obtain ⟨t12, hg11, h⟩ := of_bind h
 refine AnyE.call 7 10 (.string t12) 150 #[.agg #[.int .i64 p0_0_0, .int .u8 p0_0_1, .int .u8 p0_0_2, .int .u16 p0_0_3, .int .i64 p0_0_4, .int .i64 p0_0_5, .int .i64 p0_1, .int .i64 p0_2, .int .i64 p0_3, .int .i64 p0_4, .int .i64 p0_5], .int .i64 p0_3] (by kernel_rfl) hS8 (fun _ => by kernel_rfl) (fun w hk => text_shown_reg_150_ok K (fun _ => False) w p0_0_0 p0_0_1 p0_0_2 p0_0_3 p0_0_4 p0_0_5 p0_1 p0_2 p0_3 p0_4 p0_5 p0_3 (fun _ hf => hf.elim) ⟨(h7.atI [] rfl hk 1 rfl rfl).1, fun hf => hf.elim, (h7.atI [] rfl hk 1 rfl rfl).2.2⟩ ⟨(h7.atI [] rfl hk 2 rfl rfl).1, fun hf => hf.elim, (h7.atI [] rfl hk 2 rfl rfl).2.2⟩ hg11) ?_
 obtain ⟨hc13, h⟩ := of_cond0 h
 refine AnyE.run 8 11 (.string ((rdD tab_3 p0_2) ++ t12)) (by kernel_rfl) hS8 (fun _ hk => run_cat (a := (rdD tab_3 p0_2)) (b := t12) (by kernel_rfl) hc13) ?_
 refine AnyE.pure 9 2 (.string ((rdD tab_3 p0_2) ++ t12)) (by kernel_rfl) hS8 (fun _ => by kernel_rfl) ?_
 refine AnyE.done (by kernel_rfl) (fun w14 hu15 => ?_)
 have h16 := h7.call hu15
 refine RunsI.l [2] [(2, .string ((rdD tab_3 p0_2) ++ t12))] ?_
 refine RunsI.t (.string ((rdD tab_3 p0_2) ++ t12)) ?_
 obtain rfl := Option.some.inj h
 exact ⟨rfl, h16.below⟩
end

/-! ### (charabanc/text.shown).high (function 97) -/
section
def text_shown_high_97.post (M0 : Nat → Prop) (w0 : World) (r : ByteArray) : Ending → World → Prop := fun e w => e = .returned (.string r) ∧ Below w0.heap.size w0 w
def text_shown_high_97.f (K : Nat) (p0_0_0 : Int) (p0_0_1 : Int) (p0_0_2 : Int) (p0_0_3 : Int) (p0_0_4 : Int) (p0_0_5 : Int) (p0_1 : Int) (p0_2 : Int) (p0_3 : Int) (p0_4 : Int) (p0_5 : Int) : Option ByteArray := cond (p0_3 == 0) (cond (inR p0_2 8) (cond (mayCat (⟨#[114, 101, 116, 32]⟩ : ByteArray).size (rdD tab_1 p0_2).size) (some ((⟨#[114, 101, 116, 32]⟩ : ByteArray) ++ (rdD tab_1 p0_2))) none) none) (cond (p0_3 == 1) (cond (p0_5 == 0) ((text_shown_pair_147.f K p0_0_0 p0_0_1 p0_0_2 p0_0_3 p0_0_4 p0_0_5 p0_1 p0_2 p0_3 p0_4 p0_5 p0_4 true).bind fun t15 => cond (mayCat (⟨#[112, 111, 112, 32]⟩ : ByteArray).size t15.size) (some ((⟨#[112, 111, 112, 32]⟩ : ByteArray) ++ t15)) none) ((text_shown_hl_146.f K p0_0_0 p0_0_1 p0_0_2 p0_0_3 p0_0_4 p0_0_5 p0_1 p0_2 p0_3 p0_4 p0_5).bind fun t22 => cond (mayCat (⟨#[106, 112, 32, 40]⟩ : ByteArray).size t22.size) (cond (mayCat ((⟨#[106, 112, 32, 40]⟩ : ByteArray) ++ t22).size (⟨#[41]⟩ : ByteArray).size) ((text_shown_hl_146.f K p0_0_0 p0_0_1 p0_0_2 p0_0_3 p0_0_4 p0_0_5 p0_1 p0_2 p0_3 p0_4 p0_5).bind fun t26 => cond (mayCat (⟨#[108, 100, 32, 115, 112, 44]⟩ : ByteArray).size t26.size) (cond (inR p0_4 4) (some (rdD ([(⟨#[114, 101, 116]⟩ : ByteArray), (⟨#[101, 120, 120]⟩ : ByteArray), (((⟨#[106, 112, 32, 40]⟩ : ByteArray) ++ t22) ++ (⟨#[41]⟩ : ByteArray)), ((⟨#[108, 100, 32, 115, 112, 44]⟩ : ByteArray) ++ t26)] : List ByteArray) p0_4)) none) none) none) none)) (cond (p0_3 == 2) (cond (inR p0_2 8) (cond (mayCat (⟨#[106, 112, 32]⟩ : ByteArray).size (rdD tab_1 p0_2).size) (cond (mayCat ((⟨#[106, 112, 32]⟩ : ByteArray) ++ (rdD tab_1 p0_2)).size (⟨#[44]⟩ : ByteArray).size) ((text_shown_nn_148.f K p0_0_0 p0_0_1 p0_0_2 p0_0_3 p0_0_4 p0_0_5 p0_1 p0_2 p0_3 p0_4 p0_5).bind fun t41 => cond (mayCat (((⟨#[106, 112, 32]⟩ : ByteArray) ++ (rdD tab_1 p0_2)) ++ (⟨#[44]⟩ : ByteArray)).size t41.size) (some ((((⟨#[106, 112, 32]⟩ : ByteArray) ++ (rdD tab_1 p0_2)) ++ (⟨#[44]⟩ : ByteArray)) ++ t41)) none) none) none) none) (cond (p0_3 == 3) ((text_shown_nn_148.f K p0_0_0 p0_0_1 p0_0_2 p0_0_3 p0_0_4 p0_0_5 p0_1 p0_2 p0_3 p0_4 p0_5).bind fun t52 => cond (mayCat (⟨#[106, 112, 32]⟩ : ByteArray).size t52.size) ((text_shown_n_151.f K p0_0_0 p0_0_1 p0_0_2 p0_0_3 p0_0_4 p0_0_5 p0_1 p0_2 p0_3 p0_4 p0_5).bind fun t55 => cond (mayCat (⟨#[111, 117, 116, 32, 40]⟩ : ByteArray).size t55.size) (cond (mayCat ((⟨#[111, 117, 116, 32, 40]⟩ : ByteArray) ++ t55).size (⟨#[41, 44, 97]⟩ : ByteArray).size) ((text_shown_n_151.f K p0_0_0 p0_0_1 p0_0_2 p0_0_3 p0_0_4 p0_0_5 p0_1 p0_2 p0_3 p0_4 p0_5).bind fun t59 => cond (mayCat (⟨#[105, 110, 32, 97, 44, 40]⟩ : ByteArray).size t59.size) (cond (mayCat ((⟨#[105, 110, 32, 97, 44, 40]⟩ : ByteArray) ++ t59).size (⟨#[41]⟩ : ByteArray).size) ((text_shown_hl_146.f K p0_0_0 p0_0_1 p0_0_2 p0_0_3 p0_0_4 p0_0_5 p0_1 p0_2 p0_3 p0_4 p0_5).bind fun t63 => cond (mayCat (⟨#[101, 120, 32, 40, 115, 112, 41, 44]⟩ : ByteArray).size t63.size) (cond (inR p0_2 8) (some (rdD ([((⟨#[106, 112, 32]⟩ : ByteArray) ++ t52), (⟨#[112, 114, 101, 102, 105, 120]⟩ : ByteArray), (((⟨#[111, 117, 116, 32, 40]⟩ : ByteArray) ++ t55) ++ (⟨#[41, 44, 97]⟩ : ByteArray)), (((⟨#[105, 110, 32, 97, 44, 40]⟩ : ByteArray) ++ t59) ++ (⟨#[41]⟩ : ByteArray)), ((⟨#[101, 120, 32, 40, 115, 112, 41, 44]⟩ : ByteArray) ++ t63), (⟨#[101, 120, 32, 100, 101, 44, 104, 108]⟩ : ByteArray), (⟨#[100, 105]⟩ : ByteArray), (⟨#[101, 105]⟩ : ByteArray)] : List ByteArray) p0_2)) none) none) none) none) none) none) none) (cond (p0_3 == 4) (cond (inR p0_2 8) (cond (mayCat (⟨#[99, 97, 108, 108, 32]⟩ : ByteArray).size (rdD tab_1 p0_2).size) (cond (mayCat ((⟨#[99, 97, 108, 108, 32]⟩ : ByteArray) ++ (rdD tab_1 p0_2)).size (⟨#[44]⟩ : ByteArray).size) ((text_shown_nn_148.f K p0_0_0 p0_0_1 p0_0_2 p0_0_3 p0_0_4 p0_0_5 p0_1 p0_2 p0_3 p0_4 p0_5).bind fun t78 => cond (mayCat (((⟨#[99, 97, 108, 108, 32]⟩ : ByteArray) ++ (rdD tab_1 p0_2)) ++ (⟨#[44]⟩ : ByteArray)).size t78.size) (some ((((⟨#[99, 97, 108, 108, 32]⟩ : ByteArray) ++ (rdD tab_1 p0_2)) ++ (⟨#[44]⟩ : ByteArray)) ++ t78)) none) none) none) none) (cond (p0_3 == 5) (cond (p0_5 == 0) ((text_shown_pair_147.f K p0_0_0 p0_0_1 p0_0_2 p0_0_3 p0_0_4 p0_0_5 p0_1 p0_2 p0_3 p0_4 p0_5 p0_4 true).bind fun t89 => cond (mayCat (⟨#[112, 117, 115, 104, 32]⟩ : ByteArray).size t89.size) (some ((⟨#[112, 117, 115, 104, 32]⟩ : ByteArray) ++ t89)) none) (cond (p0_4 == 0) ((text_shown_nn_148.f K p0_0_0 p0_0_1 p0_0_2 p0_0_3 p0_0_4 p0_0_5 p0_1 p0_2 p0_3 p0_4 p0_5).bind fun t96 => cond (mayCat (⟨#[99, 97, 108, 108, 32]⟩ : ByteArray).size t96.size) (some ((⟨#[99, 97, 108, 108, 32]⟩ : ByteArray) ++ t96)) none) (some (⟨#[112, 114, 101, 102, 105, 120]⟩ : ByteArray)))) (cond (p0_3 == 6) (cond (inR p0_2 8) ((text_shown_n_151.f K p0_0_0 p0_0_1 p0_0_2 p0_0_3 p0_0_4 p0_0_5 p0_1 p0_2 p0_3 p0_4 p0_5).bind fun t105 => cond (mayCat (rdD tab_3 p0_2).size t105.size) (some ((rdD tab_3 p0_2) ++ t105)) none) none) ((text_Hex_37.f K (IntKind.wrap .i64 (8 * p0_2)) 2).bind fun t114 => cond (mayCat (⟨#[114, 115, 116, 32]⟩ : ByteArray).size t114.size) (some ((⟨#[114, 115, 116, 32]⟩ : ByteArray) ++ t114)) none)))))))
set_option maxRecDepth 100000 in
theorem text_shown_high_97_ok (K : Nat) (M0 : Nat → Prop) (w0 : World) (p0_0_0 : Int) (p0_0_1 : Int) (p0_0_2 : Int) (p0_0_3 : Int) (p0_0_4 : Int) (p0_0_5 : Int) (p0_1 : Int) (p0_2 : Int) (p0_3 : Int) (p0_4 : Int) (p0_5 : Int) (ho : ∀ b, M0 b → b < w0.heap.size) (hG1 : (gl 1 (tab_1.flatMap en_1)).ok w0 M0) (hG3 : (gl 3 (tab_3.flatMap en_3)).ok w0 M0) (hG7 : (gl 7 (tab_7.flatMap en_7)).ok w0 M0) (hG12 : (gl 12 (tab_12.flatMap en_12)).ok w0 M0) (hG15 : (gl 15 (tab_15.flatMap en_15)).ok w0 M0) (hG16 : (gl 16 (tab_16.flatMap en_16)).ok w0 M0) {r : ByteArray} (h : text_shown_high_97.f K p0_0_0 p0_0_1 p0_0_2 p0_0_3 p0_0_4 p0_0_5 p0_1 p0_2 p0_3 p0_4 p0_5 = some r) :
  Calls Tryz.prog 97 #[.agg #[.int .i64 p0_0_0, .int .u8 p0_0_1, .int .u8 p0_0_2, .int .u16 p0_0_3, .int .i64 p0_0_4, .int .i64 p0_0_5, .int .i64 p0_1, .int .i64 p0_2, .int .i64 p0_3, .int .i64 p0_4, .int .i64 p0_5]] w0 (text_shown_high_97.post M0 w0 r) := by
 unfold text_shown_high_97.f at h
 have h0 : Holds M0 w0 w0 [] := Holds.start ho
 have h0g1 := h0.add (gl 1 (tab_1.flatMap en_1)) rfl ⟨hG1.1, fun hm => hG1.2.1 (hm.elim id (fun hm => absurd hm (by simp [mines, sl, gl, cel]))), hG1.2.2⟩
 have h0g3 := h0g1.add (gl 3 (tab_3.flatMap en_3)) rfl ⟨hG3.1, fun hm => hG3.2.1 (hm.elim id (fun hm => absurd hm (by simp [mines, sl, gl, cel]))), hG3.2.2⟩
 have h0g7 := h0g3.add (gl 7 (tab_7.flatMap en_7)) rfl ⟨hG7.1, fun hm => hG7.2.1 (hm.elim id (fun hm => absurd hm (by simp [mines, sl, gl, cel]))), hG7.2.2⟩
 have h0g12 := h0g7.add (gl 12 (tab_12.flatMap en_12)) rfl ⟨hG12.1, fun hm => hG12.2.1 (hm.elim id (fun hm => absurd hm (by simp [mines, sl, gl, cel]))), hG12.2.2⟩
 have h0g15 := h0g12.add (gl 15 (tab_15.flatMap en_15)) rfl ⟨hG15.1, fun hm => hG15.2.1 (hm.elim id (fun hm => absurd hm (by simp [mines, sl, gl, cel]))), hG15.2.2⟩
 have h0g16 := h0g15.add (gl 16 (tab_16.flatMap en_16)) rfl ⟨hG16.1, fun hm => hG16.2.1 (hm.elim id (fun hm => absurd hm (by simp [mines, sl, gl, cel]))), hG16.2.2⟩
 have h0 : Holds M0 w0 w0 [gl 1 (tab_1.flatMap en_1), gl 3 (tab_3.flatMap en_3), gl 7 (tab_7.flatMap en_7), gl 12 (tab_12.flatMap en_12), gl 15 (tab_15.flatMap en_15), gl 16 (tab_16.flatMap en_16)] := h0g16
 refine calls_of F97 rfl [.agg #[.int .i64 p0_0_0, .int .u8 p0_0_1, .int .u8 p0_0_2, .int .u16 p0_0_3, .int .i64 p0_0_4, .int .i64 p0_0_5, .int .i64 p0_1, .int .i64 p0_2, .int .i64 p0_3, .int .i64 p0_4, .int .i64 p0_5]] (by kernel_rfl) ?_
 refine RunsI.g 1 [.c 1, .c 2] ?_
 refine RunsI.r ?_
 refine RegI.o (OpE.box 1 126 [.int .i64 p0_0_0, .int .u8 p0_0_1, .int .u8 p0_0_2, .int .u16 p0_0_3, .int .i64 p0_0_4, .int .i64 p0_0_5, .int .i64 p0_1, .int .i64 p0_2, .int .i64 p0_3, .int .i64 p0_4, .int .i64 p0_5] h0 (by kernel_rfl) (by kernel_rfl) ?_)
 intro w1 b2 h3 hb4 hn5
 refine RegI.p 1 [(1, .pointer (some ⟨b2, 0, none⟩))] ?_
 refine RegI.d ?_
 refine RunsI.g 2 [.c 4, .c 5, .c 72] ?_
 refine RunsI.r ?_
 refine RegI.p 1 [(1, .pointer (some ⟨b2, 0, none⟩)), (3, .pointer (some ⟨b2, 8, none⟩))] ?_
 refine RegI.o (OpE.loadBox 4 6 3 b2 8 (.int .i64 p0_3) h3 (by kernel_rfl) (by kernel_rfl) rfl (by kernel_rfl) ?_)
 refine RegI.d ?_
 refine RunsI.g 2 [.c 7, .c 8, .blk 0, .c 72] ?_
 refine RunsI.r ?_
 refine RegI.p 2 [(1, .pointer (some ⟨b2, 0, none⟩)), (4, .int .i64 p0_3), (5, .bool (p0_3 == 0))] ?_
 refine RegI.d ?_
 rcases of_cond h with ⟨hc6, h⟩ | ⟨hc6, h⟩
 ·skip
  refine RunsI.f 5 true hc6 ?_
  refine RunsI.b true 9 ?_
  refine RunsI.g 1 [.c 10, .c 11, .blk 0, .c 72] ?_
  refine RunsI.r ?_
  refine RegI.p 1 [(7, .pointer (some ⟨b2, 7, none⟩))] ?_
  refine RegI.o (OpE.loadBox 8 6 3 b2 7 (.int .i64 p0_2) h3 (by kernel_rfl) (by kernel_rfl) rfl (by kernel_rfl) ?_)
  obtain ⟨hc7, h⟩ := of_cond0 h
  refine RegI.o (OpE.run 9 (by kernel_rfl) (run_idxArr (T := 169) (b := 1) (o := 0) (ix := p0_2) (len := 8) (s := 1) (by kernel_rfl) (by kernel_rfl) hc7) ?_)
  refine RegI.o (OpE.loadTab 10 0 9 en_1 tab_1 0 1 p0_2 (.string (rdD tab_1 p0_2)) (o := 0 + (Int.toNat p0_2) * 1 + 0) h3 (by kernel_rfl) rfl (fun _ => rfl) (by kernel_rfl) (by omega) hc7 (fun _ => by kernel_rfl) ?_)
  obtain ⟨hc8, h⟩ := of_cond0 h
  refine RegI.o (OpE.run 11 (by kernel_rfl) (run_cat (a := (⟨#[114, 101, 116, 32]⟩ : ByteArray)) (b := (rdD tab_1 p0_2)) (by kernel_rfl) hc8) ?_)
  refine RegI.p 1 [(2, .string ((⟨#[114, 101, 116, 32]⟩ : ByteArray) ++ (rdD tab_1 p0_2)))] ?_
  refine RegI.d ?_
  refine RunsI.t (.string ((⟨#[114, 101, 116, 32]⟩ : ByteArray) ++ (rdD tab_1 p0_2))) ?_
  obtain rfl := Option.some.inj h
  exact ⟨rfl, h3.below⟩
 ·skip
  refine RunsI.f 5 false hc6 ?_
  refine RunsI.b false 12 ?_
  refine RunsI.g 1 [.c 13, .c 14, .blk 0, .c 72] ?_
  refine RunsI.r ?_
  refine RegI.p 2 [(1, .pointer (some ⟨b2, 0, none⟩)), (4, .int .i64 p0_3), (12, .bool (p0_3 == 1))] ?_
  refine RegI.d ?_
  rcases of_cond h with ⟨hc9, h⟩ | ⟨hc9, h⟩
  ·skip
   refine RunsI.f 12 true hc9 ?_
   refine RunsI.b true 15 ?_
   refine RunsI.g 2 [.c 17, .c 18, .c 23, .blk 0, .c 72] ?_
   refine RunsI.r ?_
   refine RegI.p 1 [(1, .pointer (some ⟨b2, 0, none⟩)), (14, .pointer (some ⟨b2, 10, none⟩))] ?_
   refine RegI.o (OpE.loadBox 15 6 3 b2 10 (.int .i64 p0_5) h3 (by kernel_rfl) (by kernel_rfl) rfl (by kernel_rfl) ?_)
   refine RegI.p 1 [(1, .pointer (some ⟨b2, 0, none⟩)), (16, .bool (p0_5 == 0))] ?_
   refine RegI.d ?_
   rcases of_cond h with ⟨hc10, h⟩ | ⟨hc10, h⟩
   ·skip
    refine RunsI.f 16 true hc10 ?_
    refine RunsI.b true 19 ?_
    refine RunsI.g 1 [.c 20, .c 21, .c 23, .blk 0, .c 72] ?_
    refine RunsI.r ?_
    refine RegI.o (OpE.loadBox 17 6 126 b2 0 (.agg #[.int .i64 p0_0_0, .int .u8 p0_0_1, .int .u8 p0_0_2, .int .u16 p0_0_3, .int .i64 p0_0_4, .int .i64 p0_0_5, .int .i64 p0_1, .int .i64 p0_2, .int .i64 p0_3, .int .i64 p0_4, .int .i64 p0_5]) h3 (by kernel_rfl) (by kernel_rfl) rfl (by kernel_rfl) ?_)
    refine RegI.p 1 [(17, .agg #[.int .i64 p0_0_0, .int .u8 p0_0_1, .int .u8 p0_0_2, .int .u16 p0_0_3, .int .i64 p0_0_4, .int .i64 p0_0_5, .int .i64 p0_1, .int .i64 p0_2, .int .i64 p0_3, .int .i64 p0_4, .int .i64 p0_5]), (18, .pointer (some ⟨b2, 9, none⟩))] ?_
    refine RegI.o (OpE.loadBox 19 6 3 b2 9 (.int .i64 p0_4) h3 (by kernel_rfl) (by kernel_rfl) rfl (by kernel_rfl) ?_)
    obtain ⟨t15, hg14, h⟩ := of_bind h
    refine RegI.o (OpE.call 20 (by kernel_rfl) 147 #[.agg #[.int .i64 p0_0_0, .int .u8 p0_0_1, .int .u8 p0_0_2, .int .u16 p0_0_3, .int .i64 p0_0_4, .int .i64 p0_0_5, .int .i64 p0_1, .int .i64 p0_2, .int .i64 p0_3, .int .i64 p0_4, .int .i64 p0_5], .int .i64 p0_4, .bool true] (by kernel_rfl) ((text_shown_pair_147_ok K _ w1  p0_0_0 p0_0_1 p0_0_2 p0_0_3 p0_0_4 p0_0_5 p0_1 p0_2 p0_3 p0_4 p0_5 p0_4 true h3.old' (h3.get 2 rfl) hg14).mono ?_))
    rintro _ w11 ⟨rfl, hb12⟩
    refine ⟨_, rfl, ?_⟩
    have h13 := h3.call hb12
    obtain ⟨hc16, h⟩ := of_cond0 h
    refine RegI.o (OpE.run 21 (by kernel_rfl) (run_cat (a := (⟨#[112, 111, 112, 32]⟩ : ByteArray)) (b := t15) (by kernel_rfl) hc16) ?_)
    refine RegI.p 1 [(2, .string ((⟨#[112, 111, 112, 32]⟩ : ByteArray) ++ t15))] ?_
    refine RegI.d ?_
    refine RunsI.t (.string ((⟨#[112, 111, 112, 32]⟩ : ByteArray) ++ t15)) ?_
    obtain rfl := Option.some.inj h
    exact ⟨rfl, h13.below⟩
   ·skip
    refine RunsI.f 16 false hc10 ?_
    refine RunsI.b false 22 ?_
    refine RunsI.g 1 [.c 23, .blk 0, .c 72] ?_
    refine RunsI.g 1 [.c 24, .c 25, .blk 0, .c 72] ?_
    refine RunsI.any 12 (by kernel_rfl) (by kernel_rfl) (by kernel_rfl) (Kp ([] : List Nat) (World.drew w1)) ?_
    have h18 := h3.drew
    generalize World.drew w1 = w17 at h18 ⊢
    have hS19 := Kp.refl ([] : List Nat) w17
    refine AnyE.loadBox 0 22 6 126 b2 0 (.agg #[.int .i64 p0_0_0, .int .u8 p0_0_1, .int .u8 p0_0_2, .int .u16 p0_0_3, .int .i64 p0_0_4, .int .i64 p0_0_5, .int .i64 p0_1, .int .i64 p0_2, .int .i64 p0_3, .int .i64 p0_4, .int .i64 p0_5]) [] h18 rfl (by kernel_rfl) hS19 rfl rfl (by kernel_rfl) (by kernel_rfl) ?_
    obtain ⟨t22, hg21, h⟩ := of_bind h
    refine AnyE.call 1 23 (.string t22) 146 #[.agg #[.int .i64 p0_0_0, .int .u8 p0_0_1, .int .u8 p0_0_2, .int .u16 p0_0_3, .int .i64 p0_0_4, .int .i64 p0_0_5, .int .i64 p0_1, .int .i64 p0_2, .int .i64 p0_3, .int .i64 p0_4, .int .i64 p0_5]] (by kernel_rfl) hS19 (fun _ => by kernel_rfl) (fun w hk => text_shown_hl_146_ok K (fun _ => False) w p0_0_0 p0_0_1 p0_0_2 p0_0_3 p0_0_4 p0_0_5 p0_1 p0_2 p0_3 p0_4 p0_5 (fun _ hf => hf.elim) ⟨(h18.atI [] rfl hk 2 rfl rfl).1, fun hf => hf.elim, (h18.atI [] rfl hk 2 rfl rfl).2.2⟩ hg21) ?_
    obtain ⟨hc23, h⟩ := of_cond0 h
    refine AnyE.run 2 24 (.string ((⟨#[106, 112, 32, 40]⟩ : ByteArray) ++ t22)) (by kernel_rfl) hS19 (fun _ hk => run_cat (a := (⟨#[106, 112, 32, 40]⟩ : ByteArray)) (b := t22) (by kernel_rfl) hc23) ?_
    obtain ⟨hc24, h⟩ := of_cond0 h
    refine AnyE.run 3 25 (.string (((⟨#[106, 112, 32, 40]⟩ : ByteArray) ++ t22) ++ (⟨#[41]⟩ : ByteArray))) (by kernel_rfl) hS19 (fun _ hk => run_cat (a := ((⟨#[106, 112, 32, 40]⟩ : ByteArray) ++ t22)) (b := (⟨#[41]⟩ : ByteArray)) (by kernel_rfl) hc24) ?_
    refine AnyE.loadBox 4 26 6 126 b2 0 (.agg #[.int .i64 p0_0_0, .int .u8 p0_0_1, .int .u8 p0_0_2, .int .u16 p0_0_3, .int .i64 p0_0_4, .int .i64 p0_0_5, .int .i64 p0_1, .int .i64 p0_2, .int .i64 p0_3, .int .i64 p0_4, .int .i64 p0_5]) [] h18 rfl (by kernel_rfl) hS19 rfl rfl (by kernel_rfl) (by kernel_rfl) ?_
    obtain ⟨t26, hg25, h⟩ := of_bind h
    refine AnyE.call 5 27 (.string t26) 146 #[.agg #[.int .i64 p0_0_0, .int .u8 p0_0_1, .int .u8 p0_0_2, .int .u16 p0_0_3, .int .i64 p0_0_4, .int .i64 p0_0_5, .int .i64 p0_1, .int .i64 p0_2, .int .i64 p0_3, .int .i64 p0_4, .int .i64 p0_5]] (by kernel_rfl) hS19 (fun _ => by kernel_rfl) (fun w hk => text_shown_hl_146_ok K (fun _ => False) w p0_0_0 p0_0_1 p0_0_2 p0_0_3 p0_0_4 p0_0_5 p0_1 p0_2 p0_3 p0_4 p0_5 (fun _ hf => hf.elim) ⟨(h18.atI [] rfl hk 2 rfl rfl).1, fun hf => hf.elim, (h18.atI [] rfl hk 2 rfl rfl).2.2⟩ hg25) ?_
    obtain ⟨hc27, h⟩ := of_cond0 h
    refine AnyE.run 6 28 (.string ((⟨#[108, 100, 32, 115, 112, 44]⟩ : ByteArray) ++ t26)) (by kernel_rfl) hS19 (fun _ hk => run_cat (a := (⟨#[108, 100, 32, 115, 112, 44]⟩ : ByteArray)) (b := t26) (by kernel_rfl) hc27) ?_
    refine AnyE.pure 7 29 (.agg (List.flatMap (fun (x : ByteArray) => ([.string x] : List Value)) ([(⟨#[114, 101, 116]⟩ : ByteArray), (⟨#[101, 120, 120]⟩ : ByteArray), (((⟨#[106, 112, 32, 40]⟩ : ByteArray) ++ t22) ++ (⟨#[41]⟩ : ByteArray)), ((⟨#[108, 100, 32, 115, 112, 44]⟩ : ByteArray) ++ t26)] : List ByteArray)).toArray) (by kernel_rfl) hS19 (fun _ => by kernel_rfl) ?_
    refine AnyE.pure 8 30 (.pointer (some ⟨b2, 9, none⟩)) (by kernel_rfl) hS19 (fun _ => by kernel_rfl) ?_
    refine AnyE.loadBox 9 31 6 3 b2 9 (.int .i64 p0_4) [] h18 rfl (by kernel_rfl) hS19 rfl rfl (by kernel_rfl) (by kernel_rfl) ?_
    obtain ⟨hc28, h⟩ := of_cond0 h
    refine AnyE.run 10 32 (.string (rdD ([(⟨#[114, 101, 116]⟩ : ByteArray), (⟨#[101, 120, 120]⟩ : ByteArray), (((⟨#[106, 112, 32, 40]⟩ : ByteArray) ++ t22) ++ (⟨#[41]⟩ : ByteArray)), ((⟨#[108, 100, 32, 115, 112, 44]⟩ : ByteArray) ++ t26)] : List ByteArray) p0_4)) (by kernel_rfl) hS19 (fun _ hk => run_indexTab (T0 := 170) (en := (fun (x : ByteArray) => ([.string x] : List Value))) (tab := ([(⟨#[114, 101, 116]⟩ : ByteArray), (⟨#[101, 120, 120]⟩ : ByteArray), (((⟨#[106, 112, 32, 40]⟩ : ByteArray) ++ t22) ++ (⟨#[41]⟩ : ByteArray)), ((⟨#[108, 100, 32, 115, 112, 44]⟩ : ByteArray) ++ t26)] : List ByteArray)) (len := 4) (sz := 1) (j := p0_4) (v := .string (rdD ([(⟨#[114, 101, 116]⟩ : ByteArray), (⟨#[101, 120, 120]⟩ : ByteArray), (((⟨#[106, 112, 32, 40]⟩ : ByteArray) ++ t22) ++ (⟨#[41]⟩ : ByteArray)), ((⟨#[108, 100, 32, 115, 112, 44]⟩ : ByteArray) ++ t26)] : List ByteArray) p0_4)) (fun _ => rfl) (by kernel_rfl) (by kernel_rfl) rfl hc28 (fun _ => by kernel_rfl)) ?_
    refine AnyE.pure 11 2 (.string (rdD ([(⟨#[114, 101, 116]⟩ : ByteArray), (⟨#[101, 120, 120]⟩ : ByteArray), (((⟨#[106, 112, 32, 40]⟩ : ByteArray) ++ t22) ++ (⟨#[41]⟩ : ByteArray)), ((⟨#[108, 100, 32, 115, 112, 44]⟩ : ByteArray) ++ t26)] : List ByteArray) p0_4)) (by kernel_rfl) hS19 (fun _ => by kernel_rfl) ?_
    refine AnyE.done (by kernel_rfl) (fun w29 hu30 => ?_)
    have h31 := h18.call hu30
    refine RunsI.l [2] [(2, .string (rdD ([(⟨#[114, 101, 116]⟩ : ByteArray), (⟨#[101, 120, 120]⟩ : ByteArray), (((⟨#[106, 112, 32, 40]⟩ : ByteArray) ++ t22) ++ (⟨#[41]⟩ : ByteArray)), ((⟨#[108, 100, 32, 115, 112, 44]⟩ : ByteArray) ++ t26)] : List ByteArray) p0_4))] ?_
    refine RunsI.t (.string (rdD ([(⟨#[114, 101, 116]⟩ : ByteArray), (⟨#[101, 120, 120]⟩ : ByteArray), (((⟨#[106, 112, 32, 40]⟩ : ByteArray) ++ t22) ++ (⟨#[41]⟩ : ByteArray)), ((⟨#[108, 100, 32, 115, 112, 44]⟩ : ByteArray) ++ t26)] : List ByteArray) p0_4)) ?_
    obtain rfl := Option.some.inj h
    exact ⟨rfl, h31.below⟩
  ·skip
   refine RunsI.f 12 false hc9 ?_
   refine RunsI.b false 26 ?_
   refine RunsI.g 1 [.c 27, .c 28, .blk 0, .c 72] ?_
   refine RunsI.r ?_
   refine RegI.p 2 [(1, .pointer (some ⟨b2, 0, none⟩)), (4, .int .i64 p0_3), (33, .bool (p0_3 == 2))] ?_
   refine RegI.d ?_
   rcases of_cond h with ⟨hc32, h⟩ | ⟨hc32, h⟩
   ·skip
    refine RunsI.f 33 true hc32 ?_
    refine RunsI.b true 29 ?_
    refine RunsI.g 1 [.c 30, .c 31, .blk 0, .c 72] ?_
    refine RunsI.any 10 (by kernel_rfl) (by kernel_rfl) (by kernel_rfl) (Kp ([] : List Nat) (World.drew w1)) ?_
    have h34 := h3.drew
    generalize World.drew w1 = w33 at h34 ⊢
    have hS35 := Kp.refl ([] : List Nat) w33
    refine AnyE.pure 0 35 (.pointer (some ⟨b2, 7, none⟩)) (by kernel_rfl) hS35 (fun _ => by kernel_rfl) ?_
    refine AnyE.loadBox 1 36 6 3 b2 7 (.int .i64 p0_2) [] h34 rfl (by kernel_rfl) hS35 rfl rfl (by kernel_rfl) (by kernel_rfl) ?_
    obtain ⟨hc37, h⟩ := of_cond0 h
    refine AnyE.run 2 37 (.pointer (some ⟨1, 0 + (Int.toNat p0_2) * 1, none⟩)) (by kernel_rfl) hS35 (fun _ hk => run_idxArr (T := 169) (b := 1) (o := 0) (ix := p0_2) (len := 8) (s := 1) (by kernel_rfl) (by kernel_rfl) hc37) ?_
    refine AnyE.loadTab 3 38 0 9 en_1 tab_1 0 1 p0_2 (.string (rdD tab_1 p0_2)) [] (o := 0 + (Int.toNat p0_2) * 1 + 0) h34 rfl (by kernel_rfl) hS35 rfl rfl (fun _ => rfl) (by kernel_rfl) (by omega) hc37 (fun _ => by kernel_rfl) ?_
    obtain ⟨hc38, h⟩ := of_cond0 h
    refine AnyE.run 4 39 (.string ((⟨#[106, 112, 32]⟩ : ByteArray) ++ (rdD tab_1 p0_2))) (by kernel_rfl) hS35 (fun _ hk => run_cat (a := (⟨#[106, 112, 32]⟩ : ByteArray)) (b := (rdD tab_1 p0_2)) (by kernel_rfl) hc38) ?_
    obtain ⟨hc39, h⟩ := of_cond0 h
    refine AnyE.run 5 40 (.string (((⟨#[106, 112, 32]⟩ : ByteArray) ++ (rdD tab_1 p0_2)) ++ (⟨#[44]⟩ : ByteArray))) (by kernel_rfl) hS35 (fun _ hk => run_cat (a := ((⟨#[106, 112, 32]⟩ : ByteArray) ++ (rdD tab_1 p0_2))) (b := (⟨#[44]⟩ : ByteArray)) (by kernel_rfl) hc39) ?_
    refine AnyE.loadBox 6 41 6 126 b2 0 (.agg #[.int .i64 p0_0_0, .int .u8 p0_0_1, .int .u8 p0_0_2, .int .u16 p0_0_3, .int .i64 p0_0_4, .int .i64 p0_0_5, .int .i64 p0_1, .int .i64 p0_2, .int .i64 p0_3, .int .i64 p0_4, .int .i64 p0_5]) [] h34 rfl (by kernel_rfl) hS35 rfl rfl (by kernel_rfl) (by kernel_rfl) ?_
    obtain ⟨t41, hg40, h⟩ := of_bind h
    refine AnyE.call 7 42 (.string t41) 148 #[.agg #[.int .i64 p0_0_0, .int .u8 p0_0_1, .int .u8 p0_0_2, .int .u16 p0_0_3, .int .i64 p0_0_4, .int .i64 p0_0_5, .int .i64 p0_1, .int .i64 p0_2, .int .i64 p0_3, .int .i64 p0_4, .int .i64 p0_5]] (by kernel_rfl) hS35 (fun _ => by kernel_rfl) (fun w hk => text_shown_nn_148_ok K (fun _ => False) w p0_0_0 p0_0_1 p0_0_2 p0_0_3 p0_0_4 p0_0_5 p0_1 p0_2 p0_3 p0_4 p0_5 (fun _ hf => hf.elim) ⟨(h34.atI [] rfl hk 3 rfl rfl).1, fun hf => hf.elim, (h34.atI [] rfl hk 3 rfl rfl).2.2⟩ ⟨(h34.atI [] rfl hk 4 rfl rfl).1, fun hf => hf.elim, (h34.atI [] rfl hk 4 rfl rfl).2.2⟩ ⟨(h34.atI [] rfl hk 5 rfl rfl).1, fun hf => hf.elim, (h34.atI [] rfl hk 5 rfl rfl).2.2⟩ hg40) ?_
    obtain ⟨hc42, h⟩ := of_cond0 h
    refine AnyE.run 8 43 (.string ((((⟨#[106, 112, 32]⟩ : ByteArray) ++ (rdD tab_1 p0_2)) ++ (⟨#[44]⟩ : ByteArray)) ++ t41)) (by kernel_rfl) hS35 (fun _ hk => run_cat (a := (((⟨#[106, 112, 32]⟩ : ByteArray) ++ (rdD tab_1 p0_2)) ++ (⟨#[44]⟩ : ByteArray))) (b := t41) (by kernel_rfl) hc42) ?_
    refine AnyE.pure 9 2 (.string ((((⟨#[106, 112, 32]⟩ : ByteArray) ++ (rdD tab_1 p0_2)) ++ (⟨#[44]⟩ : ByteArray)) ++ t41)) (by kernel_rfl) hS35 (fun _ => by kernel_rfl) ?_
    refine AnyE.done (by kernel_rfl) (fun w43 hu44 => ?_)
    have h45 := h34.call hu44
    refine RunsI.l [2] [(2, .string ((((⟨#[106, 112, 32]⟩ : ByteArray) ++ (rdD tab_1 p0_2)) ++ (⟨#[44]⟩ : ByteArray)) ++ t41))] ?_
    refine RunsI.t (.string ((((⟨#[106, 112, 32]⟩ : ByteArray) ++ (rdD tab_1 p0_2)) ++ (⟨#[44]⟩ : ByteArray)) ++ t41)) ?_
    obtain rfl := Option.some.inj h
    exact ⟨rfl, h45.below⟩
   ·skip
    refine RunsI.f 33 false hc32 ?_
    refine RunsI.b false 32 ?_
    refine RunsI.g 1 [.c 33, .c 34, .blk 0, .c 72] ?_
    refine RunsI.r ?_
    refine RegI.p 2 [(1, .pointer (some ⟨b2, 0, none⟩)), (4, .int .i64 p0_3), (44, .bool (p0_3 == 3))] ?_
    refine RegI.d ?_
    rcases of_cond h with ⟨hc46, h⟩ | ⟨hc46, h⟩
    ·skip
     refine RunsI.f 44 true hc46 ?_
     refine RunsI.b true 35 ?_
     refine RunsI.g 1 [.c 36, .c 37, .blk 0, .c 72] ?_
     refine RunsI.any 19 (by kernel_rfl) (by kernel_rfl) (by kernel_rfl) (Kp ([] : List Nat) (World.drew w1)) ?_
     have h48 := h3.drew
     generalize World.drew w1 = w47 at h48 ⊢
     have hS49 := Kp.refl ([] : List Nat) w47
     refine AnyE.loadBox 0 46 6 126 b2 0 (.agg #[.int .i64 p0_0_0, .int .u8 p0_0_1, .int .u8 p0_0_2, .int .u16 p0_0_3, .int .i64 p0_0_4, .int .i64 p0_0_5, .int .i64 p0_1, .int .i64 p0_2, .int .i64 p0_3, .int .i64 p0_4, .int .i64 p0_5]) [] h48 rfl (by kernel_rfl) hS49 rfl rfl (by kernel_rfl) (by kernel_rfl) ?_
     obtain ⟨t52, hg51, h⟩ := of_bind h
     refine AnyE.call 1 47 (.string t52) 148 #[.agg #[.int .i64 p0_0_0, .int .u8 p0_0_1, .int .u8 p0_0_2, .int .u16 p0_0_3, .int .i64 p0_0_4, .int .i64 p0_0_5, .int .i64 p0_1, .int .i64 p0_2, .int .i64 p0_3, .int .i64 p0_4, .int .i64 p0_5]] (by kernel_rfl) hS49 (fun _ => by kernel_rfl) (fun w hk => text_shown_nn_148_ok K (fun _ => False) w p0_0_0 p0_0_1 p0_0_2 p0_0_3 p0_0_4 p0_0_5 p0_1 p0_2 p0_3 p0_4 p0_5 (fun _ hf => hf.elim) ⟨(h48.atI [] rfl hk 3 rfl rfl).1, fun hf => hf.elim, (h48.atI [] rfl hk 3 rfl rfl).2.2⟩ ⟨(h48.atI [] rfl hk 4 rfl rfl).1, fun hf => hf.elim, (h48.atI [] rfl hk 4 rfl rfl).2.2⟩ ⟨(h48.atI [] rfl hk 5 rfl rfl).1, fun hf => hf.elim, (h48.atI [] rfl hk 5 rfl rfl).2.2⟩ hg51) ?_
     obtain ⟨hc53, h⟩ := of_cond0 h
     refine AnyE.run 2 48 (.string ((⟨#[106, 112, 32]⟩ : ByteArray) ++ t52)) (by kernel_rfl) hS49 (fun _ hk => run_cat (a := (⟨#[106, 112, 32]⟩ : ByteArray)) (b := t52) (by kernel_rfl) hc53) ?_
     refine AnyE.loadBox 3 49 6 126 b2 0 (.agg #[.int .i64 p0_0_0, .int .u8 p0_0_1, .int .u8 p0_0_2, .int .u16 p0_0_3, .int .i64 p0_0_4, .int .i64 p0_0_5, .int .i64 p0_1, .int .i64 p0_2, .int .i64 p0_3, .int .i64 p0_4, .int .i64 p0_5]) [] h48 rfl (by kernel_rfl) hS49 rfl rfl (by kernel_rfl) (by kernel_rfl) ?_
     obtain ⟨t55, hg54, h⟩ := of_bind h
     refine AnyE.call 4 50 (.string t55) 151 #[.agg #[.int .i64 p0_0_0, .int .u8 p0_0_1, .int .u8 p0_0_2, .int .u16 p0_0_3, .int .i64 p0_0_4, .int .i64 p0_0_5, .int .i64 p0_1, .int .i64 p0_2, .int .i64 p0_3, .int .i64 p0_4, .int .i64 p0_5]] (by kernel_rfl) hS49 (fun _ => by kernel_rfl) (fun w hk => text_shown_n_151_ok K (fun _ => False) w p0_0_0 p0_0_1 p0_0_2 p0_0_3 p0_0_4 p0_0_5 p0_1 p0_2 p0_3 p0_4 p0_5 (fun _ hf => hf.elim) ⟨(h48.atI [] rfl hk 3 rfl rfl).1, fun hf => hf.elim, (h48.atI [] rfl hk 3 rfl rfl).2.2⟩ ⟨(h48.atI [] rfl hk 4 rfl rfl).1, fun hf => hf.elim, (h48.atI [] rfl hk 4 rfl rfl).2.2⟩ ⟨(h48.atI [] rfl hk 5 rfl rfl).1, fun hf => hf.elim, (h48.atI [] rfl hk 5 rfl rfl).2.2⟩ hg54) ?_
     obtain ⟨hc56, h⟩ := of_cond0 h
     refine AnyE.run 5 51 (.string ((⟨#[111, 117, 116, 32, 40]⟩ : ByteArray) ++ t55)) (by kernel_rfl) hS49 (fun _ hk => run_cat (a := (⟨#[111, 117, 116, 32, 40]⟩ : ByteArray)) (b := t55) (by kernel_rfl) hc56) ?_
     obtain ⟨hc57, h⟩ := of_cond0 h
     refine AnyE.run 6 52 (.string (((⟨#[111, 117, 116, 32, 40]⟩ : ByteArray) ++ t55) ++ (⟨#[41, 44, 97]⟩ : ByteArray))) (by kernel_rfl) hS49 (fun _ hk => run_cat (a := ((⟨#[111, 117, 116, 32, 40]⟩ : ByteArray) ++ t55)) (b := (⟨#[41, 44, 97]⟩ : ByteArray)) (by kernel_rfl) hc57) ?_
     refine AnyE.loadBox 7 53 6 126 b2 0 (.agg #[.int .i64 p0_0_0, .int .u8 p0_0_1, .int .u8 p0_0_2, .int .u16 p0_0_3, .int .i64 p0_0_4, .int .i64 p0_0_5, .int .i64 p0_1, .int .i64 p0_2, .int .i64 p0_3, .int .i64 p0_4, .int .i64 p0_5]) [] h48 rfl (by kernel_rfl) hS49 rfl rfl (by kernel_rfl) (by kernel_rfl) ?_
     obtain ⟨t59, hg58, h⟩ := of_bind h
     refine AnyE.call 8 54 (.string t59) 151 #[.agg #[.int .i64 p0_0_0, .int .u8 p0_0_1, .int .u8 p0_0_2, .int .u16 p0_0_3, .int .i64 p0_0_4, .int .i64 p0_0_5, .int .i64 p0_1, .int .i64 p0_2, .int .i64 p0_3, .int .i64 p0_4, .int .i64 p0_5]] (by kernel_rfl) hS49 (fun _ => by kernel_rfl) (fun w hk => text_shown_n_151_ok K (fun _ => False) w p0_0_0 p0_0_1 p0_0_2 p0_0_3 p0_0_4 p0_0_5 p0_1 p0_2 p0_3 p0_4 p0_5 (fun _ hf => hf.elim) ⟨(h48.atI [] rfl hk 3 rfl rfl).1, fun hf => hf.elim, (h48.atI [] rfl hk 3 rfl rfl).2.2⟩ ⟨(h48.atI [] rfl hk 4 rfl rfl).1, fun hf => hf.elim, (h48.atI [] rfl hk 4 rfl rfl).2.2⟩ ⟨(h48.atI [] rfl hk 5 rfl rfl).1, fun hf => hf.elim, (h48.atI [] rfl hk 5 rfl rfl).2.2⟩ hg58) ?_
     obtain ⟨hc60, h⟩ := of_cond0 h
     refine AnyE.run 9 55 (.string ((⟨#[105, 110, 32, 97, 44, 40]⟩ : ByteArray) ++ t59)) (by kernel_rfl) hS49 (fun _ hk => run_cat (a := (⟨#[105, 110, 32, 97, 44, 40]⟩ : ByteArray)) (b := t59) (by kernel_rfl) hc60) ?_
     obtain ⟨hc61, h⟩ := of_cond0 h
     refine AnyE.run 10 56 (.string (((⟨#[105, 110, 32, 97, 44, 40]⟩ : ByteArray) ++ t59) ++ (⟨#[41]⟩ : ByteArray))) (by kernel_rfl) hS49 (fun _ hk => run_cat (a := ((⟨#[105, 110, 32, 97, 44, 40]⟩ : ByteArray) ++ t59)) (b := (⟨#[41]⟩ : ByteArray)) (by kernel_rfl) hc61) ?_
     refine AnyE.loadBox 11 57 6 126 b2 0 (.agg #[.int .i64 p0_0_0, .int .u8 p0_0_1, .int .u8 p0_0_2, .int .u16 p0_0_3, .int .i64 p0_0_4, .int .i64 p0_0_5, .int .i64 p0_1, .int .i64 p0_2, .int .i64 p0_3, .int .i64 p0_4, .int .i64 p0_5]) [] h48 rfl (by kernel_rfl) hS49 rfl rfl (by kernel_rfl) (by kernel_rfl) ?_
     obtain ⟨t63, hg62, h⟩ := of_bind h
     refine AnyE.call 12 58 (.string t63) 146 #[.agg #[.int .i64 p0_0_0, .int .u8 p0_0_1, .int .u8 p0_0_2, .int .u16 p0_0_3, .int .i64 p0_0_4, .int .i64 p0_0_5, .int .i64 p0_1, .int .i64 p0_2, .int .i64 p0_3, .int .i64 p0_4, .int .i64 p0_5]] (by kernel_rfl) hS49 (fun _ => by kernel_rfl) (fun w hk => text_shown_hl_146_ok K (fun _ => False) w p0_0_0 p0_0_1 p0_0_2 p0_0_3 p0_0_4 p0_0_5 p0_1 p0_2 p0_3 p0_4 p0_5 (fun _ hf => hf.elim) ⟨(h48.atI [] rfl hk 2 rfl rfl).1, fun hf => hf.elim, (h48.atI [] rfl hk 2 rfl rfl).2.2⟩ hg62) ?_
     obtain ⟨hc64, h⟩ := of_cond0 h
     refine AnyE.run 13 59 (.string ((⟨#[101, 120, 32, 40, 115, 112, 41, 44]⟩ : ByteArray) ++ t63)) (by kernel_rfl) hS49 (fun _ hk => run_cat (a := (⟨#[101, 120, 32, 40, 115, 112, 41, 44]⟩ : ByteArray)) (b := t63) (by kernel_rfl) hc64) ?_
     refine AnyE.pure 14 60 (.agg (List.flatMap (fun (x : ByteArray) => ([.string x] : List Value)) ([((⟨#[106, 112, 32]⟩ : ByteArray) ++ t52), (⟨#[112, 114, 101, 102, 105, 120]⟩ : ByteArray), (((⟨#[111, 117, 116, 32, 40]⟩ : ByteArray) ++ t55) ++ (⟨#[41, 44, 97]⟩ : ByteArray)), (((⟨#[105, 110, 32, 97, 44, 40]⟩ : ByteArray) ++ t59) ++ (⟨#[41]⟩ : ByteArray)), ((⟨#[101, 120, 32, 40, 115, 112, 41, 44]⟩ : ByteArray) ++ t63), (⟨#[101, 120, 32, 100, 101, 44, 104, 108]⟩ : ByteArray), (⟨#[100, 105]⟩ : ByteArray), (⟨#[101, 105]⟩ : ByteArray)] : List ByteArray)).toArray) (by kernel_rfl) hS49 (fun _ => by kernel_rfl) ?_
     refine AnyE.pure 15 61 (.pointer (some ⟨b2, 7, none⟩)) (by kernel_rfl) hS49 (fun _ => by kernel_rfl) ?_
     refine AnyE.loadBox 16 62 6 3 b2 7 (.int .i64 p0_2) [] h48 rfl (by kernel_rfl) hS49 rfl rfl (by kernel_rfl) (by kernel_rfl) ?_
     obtain ⟨hc65, h⟩ := of_cond0 h
     refine AnyE.run 17 63 (.string (rdD ([((⟨#[106, 112, 32]⟩ : ByteArray) ++ t52), (⟨#[112, 114, 101, 102, 105, 120]⟩ : ByteArray), (((⟨#[111, 117, 116, 32, 40]⟩ : ByteArray) ++ t55) ++ (⟨#[41, 44, 97]⟩ : ByteArray)), (((⟨#[105, 110, 32, 97, 44, 40]⟩ : ByteArray) ++ t59) ++ (⟨#[41]⟩ : ByteArray)), ((⟨#[101, 120, 32, 40, 115, 112, 41, 44]⟩ : ByteArray) ++ t63), (⟨#[101, 120, 32, 100, 101, 44, 104, 108]⟩ : ByteArray), (⟨#[100, 105]⟩ : ByteArray), (⟨#[101, 105]⟩ : ByteArray)] : List ByteArray) p0_2)) (by kernel_rfl) hS49 (fun _ hk => run_indexTab (T0 := 169) (en := (fun (x : ByteArray) => ([.string x] : List Value))) (tab := ([((⟨#[106, 112, 32]⟩ : ByteArray) ++ t52), (⟨#[112, 114, 101, 102, 105, 120]⟩ : ByteArray), (((⟨#[111, 117, 116, 32, 40]⟩ : ByteArray) ++ t55) ++ (⟨#[41, 44, 97]⟩ : ByteArray)), (((⟨#[105, 110, 32, 97, 44, 40]⟩ : ByteArray) ++ t59) ++ (⟨#[41]⟩ : ByteArray)), ((⟨#[101, 120, 32, 40, 115, 112, 41, 44]⟩ : ByteArray) ++ t63), (⟨#[101, 120, 32, 100, 101, 44, 104, 108]⟩ : ByteArray), (⟨#[100, 105]⟩ : ByteArray), (⟨#[101, 105]⟩ : ByteArray)] : List ByteArray)) (len := 8) (sz := 1) (j := p0_2) (v := .string (rdD ([((⟨#[106, 112, 32]⟩ : ByteArray) ++ t52), (⟨#[112, 114, 101, 102, 105, 120]⟩ : ByteArray), (((⟨#[111, 117, 116, 32, 40]⟩ : ByteArray) ++ t55) ++ (⟨#[41, 44, 97]⟩ : ByteArray)), (((⟨#[105, 110, 32, 97, 44, 40]⟩ : ByteArray) ++ t59) ++ (⟨#[41]⟩ : ByteArray)), ((⟨#[101, 120, 32, 40, 115, 112, 41, 44]⟩ : ByteArray) ++ t63), (⟨#[101, 120, 32, 100, 101, 44, 104, 108]⟩ : ByteArray), (⟨#[100, 105]⟩ : ByteArray), (⟨#[101, 105]⟩ : ByteArray)] : List ByteArray) p0_2)) (fun _ => rfl) (by kernel_rfl) (by kernel_rfl) rfl hc65 (fun _ => by kernel_rfl)) ?_
     refine AnyE.pure 18 2 (.string (rdD ([((⟨#[106, 112, 32]⟩ : ByteArray) ++ t52), (⟨#[112, 114, 101, 102, 105, 120]⟩ : ByteArray), (((⟨#[111, 117, 116, 32, 40]⟩ : ByteArray) ++ t55) ++ (⟨#[41, 44, 97]⟩ : ByteArray)), (((⟨#[105, 110, 32, 97, 44, 40]⟩ : ByteArray) ++ t59) ++ (⟨#[41]⟩ : ByteArray)), ((⟨#[101, 120, 32, 40, 115, 112, 41, 44]⟩ : ByteArray) ++ t63), (⟨#[101, 120, 32, 100, 101, 44, 104, 108]⟩ : ByteArray), (⟨#[100, 105]⟩ : ByteArray), (⟨#[101, 105]⟩ : ByteArray)] : List ByteArray) p0_2)) (by kernel_rfl) hS49 (fun _ => by kernel_rfl) ?_
     refine AnyE.done (by kernel_rfl) (fun w66 hu67 => ?_)
     have h68 := h48.call hu67
     refine RunsI.l [2] [(2, .string (rdD ([((⟨#[106, 112, 32]⟩ : ByteArray) ++ t52), (⟨#[112, 114, 101, 102, 105, 120]⟩ : ByteArray), (((⟨#[111, 117, 116, 32, 40]⟩ : ByteArray) ++ t55) ++ (⟨#[41, 44, 97]⟩ : ByteArray)), (((⟨#[105, 110, 32, 97, 44, 40]⟩ : ByteArray) ++ t59) ++ (⟨#[41]⟩ : ByteArray)), ((⟨#[101, 120, 32, 40, 115, 112, 41, 44]⟩ : ByteArray) ++ t63), (⟨#[101, 120, 32, 100, 101, 44, 104, 108]⟩ : ByteArray), (⟨#[100, 105]⟩ : ByteArray), (⟨#[101, 105]⟩ : ByteArray)] : List ByteArray) p0_2))] ?_
     refine RunsI.t (.string (rdD ([((⟨#[106, 112, 32]⟩ : ByteArray) ++ t52), (⟨#[112, 114, 101, 102, 105, 120]⟩ : ByteArray), (((⟨#[111, 117, 116, 32, 40]⟩ : ByteArray) ++ t55) ++ (⟨#[41, 44, 97]⟩ : ByteArray)), (((⟨#[105, 110, 32, 97, 44, 40]⟩ : ByteArray) ++ t59) ++ (⟨#[41]⟩ : ByteArray)), ((⟨#[101, 120, 32, 40, 115, 112, 41, 44]⟩ : ByteArray) ++ t63), (⟨#[101, 120, 32, 100, 101, 44, 104, 108]⟩ : ByteArray), (⟨#[100, 105]⟩ : ByteArray), (⟨#[101, 105]⟩ : ByteArray)] : List ByteArray) p0_2)) ?_
     obtain rfl := Option.some.inj h
     exact ⟨rfl, h68.below⟩
    ·skip
     refine RunsI.f 44 false hc46 ?_
     refine RunsI.b false 38 ?_
     refine RunsI.g 1 [.c 39, .c 40, .blk 0, .c 72] ?_
     refine RunsI.r ?_
     refine RegI.p 2 [(1, .pointer (some ⟨b2, 0, none⟩)), (4, .int .i64 p0_3), (64, .bool (p0_3 == 4))] ?_
     refine RegI.d ?_
     rcases of_cond h with ⟨hc69, h⟩ | ⟨hc69, h⟩
     ·skip
      refine RunsI.f 64 true hc69 ?_
      refine RunsI.b true 41 ?_
      refine RunsI.g 1 [.c 42, .c 43, .blk 0, .c 72] ?_
      refine RunsI.any 10 (by kernel_rfl) (by kernel_rfl) (by kernel_rfl) (Kp ([] : List Nat) (World.drew w1)) ?_
      have h71 := h3.drew
      generalize World.drew w1 = w70 at h71 ⊢
      have hS72 := Kp.refl ([] : List Nat) w70
      refine AnyE.pure 0 66 (.pointer (some ⟨b2, 7, none⟩)) (by kernel_rfl) hS72 (fun _ => by kernel_rfl) ?_
      refine AnyE.loadBox 1 67 6 3 b2 7 (.int .i64 p0_2) [] h71 rfl (by kernel_rfl) hS72 rfl rfl (by kernel_rfl) (by kernel_rfl) ?_
      obtain ⟨hc74, h⟩ := of_cond0 h
      refine AnyE.run 2 68 (.pointer (some ⟨1, 0 + (Int.toNat p0_2) * 1, none⟩)) (by kernel_rfl) hS72 (fun _ hk => run_idxArr (T := 169) (b := 1) (o := 0) (ix := p0_2) (len := 8) (s := 1) (by kernel_rfl) (by kernel_rfl) hc74) ?_
      refine AnyE.loadTab 3 69 0 9 en_1 tab_1 0 1 p0_2 (.string (rdD tab_1 p0_2)) [] (o := 0 + (Int.toNat p0_2) * 1 + 0) h71 rfl (by kernel_rfl) hS72 rfl rfl (fun _ => rfl) (by kernel_rfl) (by omega) hc74 (fun _ => by kernel_rfl) ?_
      obtain ⟨hc75, h⟩ := of_cond0 h
      refine AnyE.run 4 70 (.string ((⟨#[99, 97, 108, 108, 32]⟩ : ByteArray) ++ (rdD tab_1 p0_2))) (by kernel_rfl) hS72 (fun _ hk => run_cat (a := (⟨#[99, 97, 108, 108, 32]⟩ : ByteArray)) (b := (rdD tab_1 p0_2)) (by kernel_rfl) hc75) ?_
      obtain ⟨hc76, h⟩ := of_cond0 h
      refine AnyE.run 5 71 (.string (((⟨#[99, 97, 108, 108, 32]⟩ : ByteArray) ++ (rdD tab_1 p0_2)) ++ (⟨#[44]⟩ : ByteArray))) (by kernel_rfl) hS72 (fun _ hk => run_cat (a := ((⟨#[99, 97, 108, 108, 32]⟩ : ByteArray) ++ (rdD tab_1 p0_2))) (b := (⟨#[44]⟩ : ByteArray)) (by kernel_rfl) hc76) ?_
      refine AnyE.loadBox 6 72 6 126 b2 0 (.agg #[.int .i64 p0_0_0, .int .u8 p0_0_1, .int .u8 p0_0_2, .int .u16 p0_0_3, .int .i64 p0_0_4, .int .i64 p0_0_5, .int .i64 p0_1, .int .i64 p0_2, .int .i64 p0_3, .int .i64 p0_4, .int .i64 p0_5]) [] h71 rfl (by kernel_rfl) hS72 rfl rfl (by kernel_rfl) (by kernel_rfl) ?_
      obtain ⟨t78, hg77, h⟩ := of_bind h
      refine AnyE.call 7 73 (.string t78) 148 #[.agg #[.int .i64 p0_0_0, .int .u8 p0_0_1, .int .u8 p0_0_2, .int .u16 p0_0_3, .int .i64 p0_0_4, .int .i64 p0_0_5, .int .i64 p0_1, .int .i64 p0_2, .int .i64 p0_3, .int .i64 p0_4, .int .i64 p0_5]] (by kernel_rfl) hS72 (fun _ => by kernel_rfl) (fun w hk => text_shown_nn_148_ok K (fun _ => False) w p0_0_0 p0_0_1 p0_0_2 p0_0_3 p0_0_4 p0_0_5 p0_1 p0_2 p0_3 p0_4 p0_5 (fun _ hf => hf.elim) ⟨(h71.atI [] rfl hk 3 rfl rfl).1, fun hf => hf.elim, (h71.atI [] rfl hk 3 rfl rfl).2.2⟩ ⟨(h71.atI [] rfl hk 4 rfl rfl).1, fun hf => hf.elim, (h71.atI [] rfl hk 4 rfl rfl).2.2⟩ ⟨(h71.atI [] rfl hk 5 rfl rfl).1, fun hf => hf.elim, (h71.atI [] rfl hk 5 rfl rfl).2.2⟩ hg77) ?_
      obtain ⟨hc79, h⟩ := of_cond0 h
      refine AnyE.run 8 74 (.string ((((⟨#[99, 97, 108, 108, 32]⟩ : ByteArray) ++ (rdD tab_1 p0_2)) ++ (⟨#[44]⟩ : ByteArray)) ++ t78)) (by kernel_rfl) hS72 (fun _ hk => run_cat (a := (((⟨#[99, 97, 108, 108, 32]⟩ : ByteArray) ++ (rdD tab_1 p0_2)) ++ (⟨#[44]⟩ : ByteArray))) (b := t78) (by kernel_rfl) hc79) ?_
      refine AnyE.pure 9 2 (.string ((((⟨#[99, 97, 108, 108, 32]⟩ : ByteArray) ++ (rdD tab_1 p0_2)) ++ (⟨#[44]⟩ : ByteArray)) ++ t78)) (by kernel_rfl) hS72 (fun _ => by kernel_rfl) ?_
      refine AnyE.done (by kernel_rfl) (fun w80 hu81 => ?_)
      have h82 := h71.call hu81
      refine RunsI.l [2] [(2, .string ((((⟨#[99, 97, 108, 108, 32]⟩ : ByteArray) ++ (rdD tab_1 p0_2)) ++ (⟨#[44]⟩ : ByteArray)) ++ t78))] ?_
      refine RunsI.t (.string ((((⟨#[99, 97, 108, 108, 32]⟩ : ByteArray) ++ (rdD tab_1 p0_2)) ++ (⟨#[44]⟩ : ByteArray)) ++ t78)) ?_
      obtain rfl := Option.some.inj h
      exact ⟨rfl, h82.below⟩
     ·skip
      refine RunsI.f 64 false hc69 ?_
      refine RunsI.b false 44 ?_
      refine RunsI.g 1 [.c 45, .c 46, .blk 0, .c 72] ?_
      refine RunsI.r ?_
      refine RegI.p 2 [(1, .pointer (some ⟨b2, 0, none⟩)), (4, .int .i64 p0_3), (75, .bool (p0_3 == 5))] ?_
      refine RegI.d ?_
      rcases of_cond h with ⟨hc83, h⟩ | ⟨hc83, h⟩
      ·skip
       refine RunsI.f 75 true hc83 ?_
       refine RunsI.b true 47 ?_
       refine RunsI.g 3 [.c 50, .c 51, .blk 1, .c 62, .blk 0, .c 72] ?_
       refine RunsI.r ?_
       refine RegI.p 1 [(1, .pointer (some ⟨b2, 0, none⟩)), (78, .pointer (some ⟨b2, 10, none⟩))] ?_
       refine RegI.o (OpE.loadBox 79 6 3 b2 10 (.int .i64 p0_5) h3 (by kernel_rfl) (by kernel_rfl) rfl (by kernel_rfl) ?_)
       refine RegI.p 2 [(1, .pointer (some ⟨b2, 0, none⟩)), (77, .bool (p0_5 == 0))] ?_
       refine RegI.d ?_
       rcases of_cond h with ⟨hc84, h⟩ | ⟨hc84, h⟩
       ·skip
        refine RunsI.f 77 true hc84 ?_
        refine RunsI.b true 52 ?_
        refine RunsI.g 1 [.c 53, .c 54, .blk 1, .c 62, .blk 0, .c 72] ?_
        refine RunsI.r ?_
        refine RegI.o (OpE.loadBox 81 6 126 b2 0 (.agg #[.int .i64 p0_0_0, .int .u8 p0_0_1, .int .u8 p0_0_2, .int .u16 p0_0_3, .int .i64 p0_0_4, .int .i64 p0_0_5, .int .i64 p0_1, .int .i64 p0_2, .int .i64 p0_3, .int .i64 p0_4, .int .i64 p0_5]) h3 (by kernel_rfl) (by kernel_rfl) rfl (by kernel_rfl) ?_)
        refine RegI.p 1 [(81, .agg #[.int .i64 p0_0_0, .int .u8 p0_0_1, .int .u8 p0_0_2, .int .u16 p0_0_3, .int .i64 p0_0_4, .int .i64 p0_0_5, .int .i64 p0_1, .int .i64 p0_2, .int .i64 p0_3, .int .i64 p0_4, .int .i64 p0_5]), (82, .pointer (some ⟨b2, 9, none⟩))] ?_
        refine RegI.o (OpE.loadBox 83 6 3 b2 9 (.int .i64 p0_4) h3 (by kernel_rfl) (by kernel_rfl) rfl (by kernel_rfl) ?_)
        obtain ⟨t89, hg88, h⟩ := of_bind h
        refine RegI.o (OpE.call 84 (by kernel_rfl) 147 #[.agg #[.int .i64 p0_0_0, .int .u8 p0_0_1, .int .u8 p0_0_2, .int .u16 p0_0_3, .int .i64 p0_0_4, .int .i64 p0_0_5, .int .i64 p0_1, .int .i64 p0_2, .int .i64 p0_3, .int .i64 p0_4, .int .i64 p0_5], .int .i64 p0_4, .bool true] (by kernel_rfl) ((text_shown_pair_147_ok K _ w1  p0_0_0 p0_0_1 p0_0_2 p0_0_3 p0_0_4 p0_0_5 p0_1 p0_2 p0_3 p0_4 p0_5 p0_4 true h3.old' (h3.get 2 rfl) hg88).mono ?_))
        rintro _ w85 ⟨rfl, hb86⟩
        refine ⟨_, rfl, ?_⟩
        have h87 := h3.call hb86
        obtain ⟨hc90, h⟩ := of_cond0 h
        refine RegI.o (OpE.run 85 (by kernel_rfl) (run_cat (a := (⟨#[112, 117, 115, 104, 32]⟩ : ByteArray)) (b := t89) (by kernel_rfl) hc90) ?_)
        refine RegI.p 1 [(2, .string ((⟨#[112, 117, 115, 104, 32]⟩ : ByteArray) ++ t89))] ?_
        refine RegI.d ?_
        refine RunsI.t (.string ((⟨#[112, 117, 115, 104, 32]⟩ : ByteArray) ++ t89)) ?_
        obtain rfl := Option.some.inj h
        exact ⟨rfl, h87.below⟩
       ·skip
        refine RunsI.f 77 false hc84 ?_
        refine RunsI.b false 55 ?_
        refine RunsI.g 1 [.c 56, .c 57, .blk 1, .c 62, .blk 0, .c 72] ?_
        refine RunsI.r ?_
        refine RegI.p 1 [(1, .pointer (some ⟨b2, 0, none⟩)), (87, .pointer (some ⟨b2, 9, none⟩))] ?_
        refine RegI.o (OpE.loadBox 88 6 3 b2 9 (.int .i64 p0_4) h3 (by kernel_rfl) (by kernel_rfl) rfl (by kernel_rfl) ?_)
        refine RegI.p 2 [(1, .pointer (some ⟨b2, 0, none⟩)), (86, .bool (p0_4 == 0))] ?_
        refine RegI.d ?_
        rcases of_cond h with ⟨hc91, h⟩ | ⟨hc91, h⟩
        ·skip
         refine RunsI.f 86 true hc91 ?_
         refine RunsI.b true 58 ?_
         refine RunsI.g 1 [.c 59, .c 60, .blk 1, .c 62, .blk 0, .c 72] ?_
         refine RunsI.r ?_
         refine RegI.o (OpE.loadBox 90 6 126 b2 0 (.agg #[.int .i64 p0_0_0, .int .u8 p0_0_1, .int .u8 p0_0_2, .int .u16 p0_0_3, .int .i64 p0_0_4, .int .i64 p0_0_5, .int .i64 p0_1, .int .i64 p0_2, .int .i64 p0_3, .int .i64 p0_4, .int .i64 p0_5]) h3 (by kernel_rfl) (by kernel_rfl) rfl (by kernel_rfl) ?_)
         obtain ⟨t96, hg95, h⟩ := of_bind h
         refine RegI.o (OpE.call 91 (by kernel_rfl) 148 #[.agg #[.int .i64 p0_0_0, .int .u8 p0_0_1, .int .u8 p0_0_2, .int .u16 p0_0_3, .int .i64 p0_0_4, .int .i64 p0_0_5, .int .i64 p0_1, .int .i64 p0_2, .int .i64 p0_3, .int .i64 p0_4, .int .i64 p0_5]] (by kernel_rfl) ((text_shown_nn_148_ok K _ w1  p0_0_0 p0_0_1 p0_0_2 p0_0_3 p0_0_4 p0_0_5 p0_1 p0_2 p0_3 p0_4 p0_5 h3.old' (h3.get 3 rfl) (h3.get 4 rfl) (h3.get 5 rfl) hg95).mono ?_))
         rintro _ w92 ⟨rfl, hb93⟩
         refine ⟨_, rfl, ?_⟩
         have h94 := h3.call hb93
         obtain ⟨hc97, h⟩ := of_cond0 h
         refine RegI.o (OpE.run 92 (by kernel_rfl) (run_cat (a := (⟨#[99, 97, 108, 108, 32]⟩ : ByteArray)) (b := t96) (by kernel_rfl) hc97) ?_)
         refine RegI.p 1 [(2, .string ((⟨#[99, 97, 108, 108, 32]⟩ : ByteArray) ++ t96))] ?_
         refine RegI.d ?_
         refine RunsI.t (.string ((⟨#[99, 97, 108, 108, 32]⟩ : ByteArray) ++ t96)) ?_
         obtain rfl := Option.some.inj h
         exact ⟨rfl, h94.below⟩
        ·skip
         refine RunsI.f 86 false hc91 ?_
         refine RunsI.b false 61 ?_
         refine RunsI.g 1 [.blk 1, .c 62, .blk 0, .c 72] ?_
         refine RunsI.g 2 [.c 63, .c 64, .blk 0, .c 72] ?_
         refine RunsI.r ?_
         refine RegI.p 1 [(2, .string (⟨#[112, 114, 101, 102, 105, 120]⟩ : ByteArray))] ?_
         refine RegI.d ?_
         refine RunsI.t (.string (⟨#[112, 114, 101, 102, 105, 120]⟩ : ByteArray)) ?_
         obtain rfl := Option.some.inj h
         exact ⟨rfl, h3.below⟩
      ·skip
       refine RunsI.f 75 false hc83 ?_
       refine RunsI.b false 65 ?_
       refine RunsI.g 1 [.c 66, .c 67, .blk 0, .c 72] ?_
       refine RunsI.r ?_
       refine RegI.p 2 [(1, .pointer (some ⟨b2, 0, none⟩)), (93, .bool (p0_3 == 6))] ?_
       refine RegI.d ?_
       rcases of_cond h with ⟨hc98, h⟩ | ⟨hc98, h⟩
       ·skip
        refine RunsI.f 93 true hc98 ?_
        refine RunsI.b true 68 ?_
        refine RunsI.g 1 [.c 69, .c 70, .blk 0, .c 72] ?_
        refine RunsI.any 8 (by kernel_rfl) (by kernel_rfl) (by kernel_rfl) (Kp ([] : List Nat) (World.drew w1)) ?_
        have h100 := h3.drew
        generalize World.drew w1 = w99 at h100 ⊢
        have hS101 := Kp.refl ([] : List Nat) w99
        refine AnyE.pure 0 95 (.pointer (some ⟨b2, 7, none⟩)) (by kernel_rfl) hS101 (fun _ => by kernel_rfl) ?_
        refine AnyE.loadBox 1 96 6 3 b2 7 (.int .i64 p0_2) [] h100 rfl (by kernel_rfl) hS101 rfl rfl (by kernel_rfl) (by kernel_rfl) ?_
        obtain ⟨hc103, h⟩ := of_cond0 h
        refine AnyE.run 2 97 (.pointer (some ⟨3, 0 + (Int.toNat p0_2) * 1, none⟩)) (by kernel_rfl) hS101 (fun _ hk => run_idxArr (T := 169) (b := 3) (o := 0) (ix := p0_2) (len := 8) (s := 1) (by kernel_rfl) (by kernel_rfl) hc103) ?_
        refine AnyE.loadTab 3 98 1 9 en_3 tab_3 0 1 p0_2 (.string (rdD tab_3 p0_2)) [] (o := 0 + (Int.toNat p0_2) * 1 + 0) h100 rfl (by kernel_rfl) hS101 rfl rfl (fun _ => rfl) (by kernel_rfl) (by omega) hc103 (fun _ => by kernel_rfl) ?_
        refine AnyE.loadBox 4 99 6 126 b2 0 (.agg #[.int .i64 p0_0_0, .int .u8 p0_0_1, .int .u8 p0_0_2, .int .u16 p0_0_3, .int .i64 p0_0_4, .int .i64 p0_0_5, .int .i64 p0_1, .int .i64 p0_2, .int .i64 p0_3, .int .i64 p0_4, .int .i64 p0_5]) [] h100 rfl (by kernel_rfl) hS101 rfl rfl (by kernel_rfl) (by kernel_rfl) ?_
        obtain ⟨t105, hg104, h⟩ := of_bind h
        refine AnyE.call 5 100 (.string t105) 151 #[.agg #[.int .i64 p0_0_0, .int .u8 p0_0_1, .int .u8 p0_0_2, .int .u16 p0_0_3, .int .i64 p0_0_4, .int .i64 p0_0_5, .int .i64 p0_1, .int .i64 p0_2, .int .i64 p0_3, .int .i64 p0_4, .int .i64 p0_5]] (by kernel_rfl) hS101 (fun _ => by kernel_rfl) (fun w hk => text_shown_n_151_ok K (fun _ => False) w p0_0_0 p0_0_1 p0_0_2 p0_0_3 p0_0_4 p0_0_5 p0_1 p0_2 p0_3 p0_4 p0_5 (fun _ hf => hf.elim) ⟨(h100.atI [] rfl hk 3 rfl rfl).1, fun hf => hf.elim, (h100.atI [] rfl hk 3 rfl rfl).2.2⟩ ⟨(h100.atI [] rfl hk 4 rfl rfl).1, fun hf => hf.elim, (h100.atI [] rfl hk 4 rfl rfl).2.2⟩ ⟨(h100.atI [] rfl hk 5 rfl rfl).1, fun hf => hf.elim, (h100.atI [] rfl hk 5 rfl rfl).2.2⟩ hg104) ?_
        obtain ⟨hc106, h⟩ := of_cond0 h
        refine AnyE.run 6 101 (.string ((rdD tab_3 p0_2) ++ t105)) (by kernel_rfl) hS101 (fun _ hk => run_cat (a := (rdD tab_3 p0_2)) (b := t105) (by kernel_rfl) hc106) ?_
        refine AnyE.pure 7 2 (.string ((rdD tab_3 p0_2) ++ t105)) (by kernel_rfl) hS101 (fun _ => by kernel_rfl) ?_
        refine AnyE.done (by kernel_rfl) (fun w107 hu108 => ?_)
        have h109 := h100.call hu108
        refine RunsI.l [2] [(2, .string ((rdD tab_3 p0_2) ++ t105))] ?_
        refine RunsI.t (.string ((rdD tab_3 p0_2) ++ t105)) ?_
        obtain rfl := Option.some.inj h
        exact ⟨rfl, h109.below⟩
       ·skip
        refine RunsI.f 93 false hc98 ?_
        refine RunsI.b false 71 ?_
        refine RunsI.g 1 [.blk 0, .c 72] ?_
        refine RunsI.g 2 [.c 73, .c 74] ?_
        refine RunsI.r ?_
        refine RegI.p 1 [(102, .pointer (some ⟨b2, 7, none⟩))] ?_
        refine RegI.o (OpE.loadBox 103 6 3 b2 7 (.int .i64 p0_2) h3 (by kernel_rfl) (by kernel_rfl) rfl (by kernel_rfl) ?_)
        refine RegI.p 1 [(104, .int .i64 (IntKind.wrap .i64 (8 * p0_2)))] ?_
        obtain ⟨t114, hg113, h⟩ := of_bind h
        refine RegI.o (OpE.call 105 (by kernel_rfl) 37 #[.int .i64 (IntKind.wrap .i64 (8 * p0_2)), .int .i64 2] (by kernel_rfl) ((text_Hex_37_ok K _ w1  (IntKind.wrap .i64 (8 * p0_2)) 2 h3.old' (h3.get 3 rfl) (h3.get 4 rfl) (h3.get 5 rfl) hg113).mono ?_))
        rintro _ w110 ⟨rfl, hb111⟩
        refine ⟨_, rfl, ?_⟩
        have h112 := h3.call hb111
        obtain ⟨hc115, h⟩ := of_cond0 h
        refine RegI.o (OpE.run 106 (by kernel_rfl) (run_cat (a := (⟨#[114, 115, 116, 32]⟩ : ByteArray)) (b := t114) (by kernel_rfl) hc115) ?_)
        refine RegI.p 1 [(2, .string ((⟨#[114, 115, 116, 32]⟩ : ByteArray) ++ t114))] ?_
        refine RegI.d ?_
        refine RunsI.t (.string ((⟨#[114, 115, 116, 32]⟩ : ByteArray) ++ t114)) ?_
        obtain rfl := Option.some.inj h
        exact ⟨rfl, h112.below⟩
end

/-! ### (charabanc/text.shown).far (function 98) -/
section
def text_shown_far_98.post (M0 : Nat → Prop) (w0 : World) (r : ByteArray) : Ending → World → Prop := fun e w => e = .returned (.string r) ∧ Below w0.heap.size w0 w
def text_shown_far_98.f (K : Nat) (p0_0_0 : Int) (p0_0_1 : Int) (p0_0_2 : Int) (p0_0_3 : Int) (p0_0_4 : Int) (p0_0_5 : Int) (p0_1 : Int) (p0_2 : Int) (p0_3 : Int) (p0_4 : Int) (p0_5 : Int) : Option ByteArray := Let (fun (t8 : Bool) => cond t8 (Let (fun (t16 : Bool) => cond t16 (cond (inR (IntKind.wrap .i64 (p0_2 - 4)) 4) (cond (mayCat (⟨#[111, 117, 116]⟩ : ByteArray).size (rdD tab_4 (IntKind.wrap .i64 (p0_2 - 4))).size) (some ((⟨#[111, 117, 116]⟩ : ByteArray) ++ (rdD tab_4 (IntKind.wrap .i64 (p0_2 - 4))))) none) none) (cond (inR p0_3 4) (cond (inR (IntKind.wrap .i64 (p0_2 - 4)) 4) (cond (mayCat (rdD tab_5 p0_3).size (rdD tab_4 (IntKind.wrap .i64 (p0_2 - 4))).size) (some ((rdD tab_5 p0_3) ++ (rdD tab_4 (IntKind.wrap .i64 (p0_2 - 4))))) none) none) none)) (fun j19 => cond (p0_3 == 3) (j19 (decide (p0_2 < 6))) (j19 false))) (cond (p0_1 != 1) (some (⟨#[110, 111, 112, 42]⟩ : ByteArray)) (cond (inR p0_2 8) (cond (p0_3 == 0) (cond (p0_2 == 6) (cond (mayCat (⟨#[105, 110, 32]⟩ : ByteArray).size (⟨#[102]⟩ : ByteArray).size) (cond (mayCat ((⟨#[105, 110, 32]⟩ : ByteArray) ++ (⟨#[102]⟩ : ByteArray)).size (⟨#[44, 40, 99, 41]⟩ : ByteArray).size) (some (((⟨#[105, 110, 32]⟩ : ByteArray) ++ (⟨#[102]⟩ : ByteArray)) ++ (⟨#[44, 40, 99, 41]⟩ : ByteArray))) none) none) (cond (mayCat (⟨#[105, 110, 32]⟩ : ByteArray).size (rdD tab_6 p0_2).size) (cond (mayCat ((⟨#[105, 110, 32]⟩ : ByteArray) ++ (rdD tab_6 p0_2)).size (⟨#[44, 40, 99, 41]⟩ : ByteArray).size) (some (((⟨#[105, 110, 32]⟩ : ByteArray) ++ (rdD tab_6 p0_2)) ++ (⟨#[44, 40, 99, 41]⟩ : ByteArray))) none) none)) (cond (p0_3 == 1) (cond (p0_2 == 6) (cond (mayCat (⟨#[111, 117, 116, 32, 40, 99, 41, 44]⟩ : ByteArray).size (⟨#[48]⟩ : ByteArray).size) (some ((⟨#[111, 117, 116, 32, 40, 99, 41, 44]⟩ : ByteArray) ++ (⟨#[48]⟩ : ByteArray))) none) (cond (mayCat (⟨#[111, 117, 116, 32, 40, 99, 41, 44]⟩ : ByteArray).size (rdD tab_6 p0_2).size) (some ((⟨#[111, 117, 116, 32, 40, 99, 41, 44]⟩ : ByteArray) ++ (rdD tab_6 p0_2))) none)) (cond (p0_3 == 2) (cond (inR p0_5 2) (cond (inR p0_4 5) (cond (mayCat (rdD ([(⟨#[115, 98, 99, 32, 104, 108, 44]⟩ : ByteArray), (⟨#[97, 100, 99, 32, 104, 108, 44]⟩ : ByteArray)] : List ByteArray) p0_5).size (rdD tab_7 p0_4).size) (some ((rdD ([(⟨#[115, 98, 99, 32, 104, 108, 44]⟩ : ByteArray), (⟨#[97, 100, 99, 32, 104, 108, 44]⟩ : ByteArray)] : List ByteArray) p0_5) ++ (rdD tab_7 p0_4))) none) none) none) (cond (p0_3 == 3) (cond (p0_5 == 1) (cond (inR p0_4 5) (cond (mayCat (⟨#[108, 100, 32]⟩ : ByteArray).size (rdD tab_7 p0_4).size) (cond (mayCat ((⟨#[108, 100, 32]⟩ : ByteArray) ++ (rdD tab_7 p0_4)).size (⟨#[44, 40]⟩ : ByteArray).size) ((text_shown_nn_148.f K p0_0_0 p0_0_1 p0_0_2 p0_0_3 p0_0_4 p0_0_5 p0_1 p0_2 p0_3 p0_4 p0_5).bind fun t68 => cond (mayCat (((⟨#[108, 100, 32]⟩ : ByteArray) ++ (rdD tab_7 p0_4)) ++ (⟨#[44, 40]⟩ : ByteArray)).size t68.size) (cond (mayCat ((((⟨#[108, 100, 32]⟩ : ByteArray) ++ (rdD tab_7 p0_4)) ++ (⟨#[44, 40]⟩ : ByteArray)) ++ t68).size (⟨#[41]⟩ : ByteArray).size) (some (((((⟨#[108, 100, 32]⟩ : ByteArray) ++ (rdD tab_7 p0_4)) ++ (⟨#[44, 40]⟩ : ByteArray)) ++ t68) ++ (⟨#[41]⟩ : ByteArray))) none) none) none) none) none) ((text_shown_nn_148.f K p0_0_0 p0_0_1 p0_0_2 p0_0_3 p0_0_4 p0_0_5 p0_1 p0_2 p0_3 p0_4 p0_5).bind fun t79 => cond (mayCat (⟨#[108, 100, 32, 40]⟩ : ByteArray).size t79.size) (cond (mayCat ((⟨#[108, 100, 32, 40]⟩ : ByteArray) ++ t79).size (⟨#[41, 44]⟩ : ByteArray).size) (cond (inR p0_4 5) (cond (mayCat (((⟨#[108, 100, 32, 40]⟩ : ByteArray) ++ t79) ++ (⟨#[41, 44]⟩ : ByteArray)).size (rdD tab_7 p0_4).size) (some ((((⟨#[108, 100, 32, 40]⟩ : ByteArray) ++ t79) ++ (⟨#[41, 44]⟩ : ByteArray)) ++ (rdD tab_7 p0_4))) none) none) none) none)) (cond (p0_3 == 4) (some (⟨#[110, 101, 103]⟩ : ByteArray)) (cond (p0_3 == 5) (cond (p0_2 == 1) (some (⟨#[114, 101, 116, 105]⟩ : ByteArray)) (some (⟨#[114, 101, 116, 110]⟩ : ByteArray))) (cond (p0_3 == 6) (cond (inR (band .i64 p0_2 3) 4) (some (rdD tab_8 (band .i64 p0_2 3))) none) (some (rdD tab_9 p0_2))))))))) none))) (fun j11 => cond (p0_1 == 2) (cond (decide (p0_3 < 4)) (j11 (decide (p0_2 > 3))) (j11 false)) (j11 false))
set_option maxRecDepth 100000 in
theorem text_shown_far_98_ok (K : Nat) (M0 : Nat → Prop) (w0 : World) (p0_0_0 : Int) (p0_0_1 : Int) (p0_0_2 : Int) (p0_0_3 : Int) (p0_0_4 : Int) (p0_0_5 : Int) (p0_1 : Int) (p0_2 : Int) (p0_3 : Int) (p0_4 : Int) (p0_5 : Int) (ho : ∀ b, M0 b → b < w0.heap.size) (hG4 : (gl 4 (tab_4.flatMap en_4)).ok w0 M0) (hG5 : (gl 5 (tab_5.flatMap en_5)).ok w0 M0) (hG6 : (gl 6 (tab_6.flatMap en_6)).ok w0 M0) (hG7 : (gl 7 (tab_7.flatMap en_7)).ok w0 M0) (hG8 : (gl 8 (tab_8.flatMap en_8)).ok w0 M0) (hG9 : (gl 9 (tab_9.flatMap en_9)).ok w0 M0) (hG12 : (gl 12 (tab_12.flatMap en_12)).ok w0 M0) (hG15 : (gl 15 (tab_15.flatMap en_15)).ok w0 M0) (hG16 : (gl 16 (tab_16.flatMap en_16)).ok w0 M0) {r : ByteArray} (h : text_shown_far_98.f K p0_0_0 p0_0_1 p0_0_2 p0_0_3 p0_0_4 p0_0_5 p0_1 p0_2 p0_3 p0_4 p0_5 = some r) :
  Calls Tryz.prog 98 #[.agg #[.int .i64 p0_0_0, .int .u8 p0_0_1, .int .u8 p0_0_2, .int .u16 p0_0_3, .int .i64 p0_0_4, .int .i64 p0_0_5, .int .i64 p0_1, .int .i64 p0_2, .int .i64 p0_3, .int .i64 p0_4, .int .i64 p0_5]] w0 (text_shown_far_98.post M0 w0 r) := by
 unfold text_shown_far_98.f at h
 have h0 : Holds M0 w0 w0 [] := Holds.start ho
 have h0g4 := h0.add (gl 4 (tab_4.flatMap en_4)) rfl ⟨hG4.1, fun hm => hG4.2.1 (hm.elim id (fun hm => absurd hm (by simp [mines, sl, gl, cel]))), hG4.2.2⟩
 have h0g5 := h0g4.add (gl 5 (tab_5.flatMap en_5)) rfl ⟨hG5.1, fun hm => hG5.2.1 (hm.elim id (fun hm => absurd hm (by simp [mines, sl, gl, cel]))), hG5.2.2⟩
 have h0g6 := h0g5.add (gl 6 (tab_6.flatMap en_6)) rfl ⟨hG6.1, fun hm => hG6.2.1 (hm.elim id (fun hm => absurd hm (by simp [mines, sl, gl, cel]))), hG6.2.2⟩
 have h0g7 := h0g6.add (gl 7 (tab_7.flatMap en_7)) rfl ⟨hG7.1, fun hm => hG7.2.1 (hm.elim id (fun hm => absurd hm (by simp [mines, sl, gl, cel]))), hG7.2.2⟩
 have h0g8 := h0g7.add (gl 8 (tab_8.flatMap en_8)) rfl ⟨hG8.1, fun hm => hG8.2.1 (hm.elim id (fun hm => absurd hm (by simp [mines, sl, gl, cel]))), hG8.2.2⟩
 have h0g9 := h0g8.add (gl 9 (tab_9.flatMap en_9)) rfl ⟨hG9.1, fun hm => hG9.2.1 (hm.elim id (fun hm => absurd hm (by simp [mines, sl, gl, cel]))), hG9.2.2⟩
 have h0g12 := h0g9.add (gl 12 (tab_12.flatMap en_12)) rfl ⟨hG12.1, fun hm => hG12.2.1 (hm.elim id (fun hm => absurd hm (by simp [mines, sl, gl, cel]))), hG12.2.2⟩
 have h0g15 := h0g12.add (gl 15 (tab_15.flatMap en_15)) rfl ⟨hG15.1, fun hm => hG15.2.1 (hm.elim id (fun hm => absurd hm (by simp [mines, sl, gl, cel]))), hG15.2.2⟩
 have h0g16 := h0g15.add (gl 16 (tab_16.flatMap en_16)) rfl ⟨hG16.1, fun hm => hG16.2.1 (hm.elim id (fun hm => absurd hm (by simp [mines, sl, gl, cel]))), hG16.2.2⟩
 have h0 : Holds M0 w0 w0 [gl 4 (tab_4.flatMap en_4), gl 5 (tab_5.flatMap en_5), gl 6 (tab_6.flatMap en_6), gl 7 (tab_7.flatMap en_7), gl 8 (tab_8.flatMap en_8), gl 9 (tab_9.flatMap en_9), gl 12 (tab_12.flatMap en_12), gl 15 (tab_15.flatMap en_15), gl 16 (tab_16.flatMap en_16)] := h0g16
 refine calls_of F98 rfl [.agg #[.int .i64 p0_0_0, .int .u8 p0_0_1, .int .u8 p0_0_2, .int .u16 p0_0_3, .int .i64 p0_0_4, .int .i64 p0_0_5, .int .i64 p0_1, .int .i64 p0_2, .int .i64 p0_3, .int .i64 p0_4, .int .i64 p0_5]] (by kernel_rfl) ?_
 refine RunsI.g 1 [.c 1, .c 2] ?_
 refine RunsI.r ?_
 refine RegI.o (OpE.box 1 126 [.int .i64 p0_0_0, .int .u8 p0_0_1, .int .u8 p0_0_2, .int .u16 p0_0_3, .int .i64 p0_0_4, .int .i64 p0_0_5, .int .i64 p0_1, .int .i64 p0_2, .int .i64 p0_3, .int .i64 p0_4, .int .i64 p0_5] h0 (by kernel_rfl) (by kernel_rfl) ?_)
 intro w1 b2 h3 hb4 hn5
 refine RegI.p 1 [(1, .pointer (some ⟨b2, 0, none⟩))] ?_
 refine RegI.d ?_
 refine RunsI.g 3 [.c 5, .c 6, .blk 0, .c 25] ?_
 refine RunsI.r ?_
 refine RegI.p 1 [(1, .pointer (some ⟨b2, 0, none⟩)), (5, .pointer (some ⟨b2, 6, none⟩))] ?_
 refine RegI.o (OpE.loadBox 6 9 3 b2 6 (.int .i64 p0_1) h3 (by kernel_rfl) (by kernel_rfl) rfl (by kernel_rfl) ?_)
 refine RegI.p 2 [(1, .pointer (some ⟨b2, 0, none⟩)), (8, .bool (p0_1 == 2))] ?_
 obtain ⟨j11, hJ12, h⟩ := of_let h
 have hj13 : ∀ (t8 : Bool) (w10 : World), j11 t8 = some r → Holds M0 w0 w10 [box b2 126 [.int .i64 p0_0_0, .int .u8 p0_0_1, .int .u8 p0_0_2, .int .u16 p0_0_3, .int .i64 p0_0_4, .int .i64 p0_0_5, .int .i64 p0_1, .int .i64 p0_2, .int .i64 p0_3, .int .i64 p0_4, .int .i64 p0_5], gl 4 (tab_4.flatMap en_4), gl 5 (tab_5.flatMap en_5), gl 6 (tab_6.flatMap en_6), gl 7 (tab_7.flatMap en_7), gl 8 (tab_8.flatMap en_8), gl 9 (tab_9.flatMap en_9), gl 12 (tab_12.flatMap en_12), gl 15 (tab_15.flatMap en_15), gl 16 (tab_16.flatMap en_16)] → RegI F98 5 [.c 6, .blk 0, .c 25] 14 [(1, .pointer (some ⟨b2, 0, none⟩)), (4, .bool t8)] w10 (text_shown_far_98.post M0 w0 r) := by
  intro t8 w10 h h9
  rw [hJ12] at h
  clear hJ12
  dsimp only at h
  refine RegI.d ?_
  rcases of_cond h with ⟨hc14, h⟩ | ⟨hc14, h⟩
  ·skip
   refine RunsI.f 4 true hc14 ?_
   refine RunsI.b true 7 ?_
   refine RunsI.g 2 [.c 9, .c 10, .c 15, .blk 0, .c 25] ?_
   refine RunsI.r ?_
   refine RegI.p 1 [(1, .pointer (some ⟨b2, 0, none⟩)), (18, .pointer (some ⟨b2, 8, none⟩))] ?_
   refine RegI.o (OpE.loadBox 19 0 3 b2 8 (.int .i64 p0_3) h9 (by kernel_rfl) (by kernel_rfl) rfl (by kernel_rfl) ?_)
   refine RegI.p 2 [(1, .pointer (some ⟨b2, 0, none⟩)), (21, .bool (p0_3 == 3))] ?_
   obtain ⟨j19, hJ20, h⟩ := of_let h
   have hj21 : ∀ (t16 : Bool) (w18 : World), j19 t16 = some r → Holds M0 w0 w18 [box b2 126 [.int .i64 p0_0_0, .int .u8 p0_0_1, .int .u8 p0_0_2, .int .u16 p0_0_3, .int .i64 p0_0_4, .int .i64 p0_0_5, .int .i64 p0_1, .int .i64 p0_2, .int .i64 p0_3, .int .i64 p0_4, .int .i64 p0_5], gl 4 (tab_4.flatMap en_4), gl 5 (tab_5.flatMap en_5), gl 6 (tab_6.flatMap en_6), gl 7 (tab_7.flatMap en_7), gl 8 (tab_8.flatMap en_8), gl 9 (tab_9.flatMap en_9), gl 12 (tab_12.flatMap en_12), gl 15 (tab_15.flatMap en_15), gl 16 (tab_16.flatMap en_16)] → RegI F98 9 [.c 10, .c 15, .blk 0, .c 25] 8 [(1, .pointer (some ⟨b2, 0, none⟩)), (25, .bool t16)] w18 (text_shown_far_98.post M0 w0 r) := by
    intro t16 w18 h h17
    rw [hJ20] at h
    clear hJ20
    dsimp only at h
    refine RegI.d ?_
    rcases of_cond h with ⟨hc22, h⟩ | ⟨hc22, h⟩
    ·skip
     refine RunsI.f 25 true hc22 ?_
     refine RunsI.b true 11 ?_
     refine RunsI.g 1 [.c 12, .c 13, .c 15, .blk 0, .c 25] ?_
     refine RunsI.r ?_
     refine RegI.p 1 [(26, .pointer (some ⟨b2, 7, none⟩))] ?_
     refine RegI.o (OpE.loadBox 27 0 3 b2 7 (.int .i64 p0_2) h17 (by kernel_rfl) (by kernel_rfl) rfl (by kernel_rfl) ?_)
     refine RegI.p 1 [(28, .int .i64 (IntKind.wrap .i64 (p0_2 - 4)))] ?_
     obtain ⟨hc23, h⟩ := of_cond0 h
     refine RegI.o (OpE.run 29 (by kernel_rfl) (run_idxArr (T := 170) (b := 4) (o := 0) (ix := (IntKind.wrap .i64 (p0_2 - 4))) (len := 4) (s := 1) (by kernel_rfl) (by kernel_rfl) hc23) ?_)
     refine RegI.o (OpE.loadTab 30 1 9 en_4 tab_4 0 1 (IntKind.wrap .i64 (p0_2 - 4)) (.string (rdD tab_4 (IntKind.wrap .i64 (p0_2 - 4)))) (o := 0 + (Int.toNat (IntKind.wrap .i64 (p0_2 - 4))) * 1 + 0) h17 (by kernel_rfl) rfl (fun _ => rfl) (by kernel_rfl) (by omega) hc23 (fun _ => by kernel_rfl) ?_)
     obtain ⟨hc24, h⟩ := of_cond0 h
     refine RegI.o (OpE.run 31 (by kernel_rfl) (run_cat (a := (⟨#[111, 117, 116]⟩ : ByteArray)) (b := (rdD tab_4 (IntKind.wrap .i64 (p0_2 - 4)))) (by kernel_rfl) hc24) ?_)
     refine RegI.p 1 [(2, .string ((⟨#[111, 117, 116]⟩ : ByteArray) ++ (rdD tab_4 (IntKind.wrap .i64 (p0_2 - 4)))))] ?_
     refine RegI.d ?_
     refine RunsI.t (.string ((⟨#[111, 117, 116]⟩ : ByteArray) ++ (rdD tab_4 (IntKind.wrap .i64 (p0_2 - 4))))) ?_
     obtain rfl := Option.some.inj h
     exact ⟨rfl, h17.below⟩
    ·skip
     refine RunsI.f 25 false hc22 ?_
     refine RunsI.b false 14 ?_
     refine RunsI.g 1 [.c 15, .blk 0, .c 25] ?_
     refine RunsI.g 1 [.c 16, .c 17, .blk 0, .c 25] ?_
     refine RunsI.any 11 (by kernel_rfl) (by kernel_rfl) (by kernel_rfl) (Kp ([] : List Nat) (World.drew w18)) ?_
     have h26 := h17.drew
     generalize World.drew w18 = w25 at h26 ⊢
     have hS27 := Kp.refl ([] : List Nat) w25
     refine AnyE.pure 0 32 (.pointer (some ⟨b2, 8, none⟩)) (by kernel_rfl) hS27 (fun _ => by kernel_rfl) ?_
     refine AnyE.loadBox 1 33 0 3 b2 8 (.int .i64 p0_3) [] h26 rfl (by kernel_rfl) hS27 rfl rfl (by kernel_rfl) (by kernel_rfl) ?_
     obtain ⟨hc29, h⟩ := of_cond0 h
     refine AnyE.run 2 34 (.pointer (some ⟨5, 0 + (Int.toNat p0_3) * 1, none⟩)) (by kernel_rfl) hS27 (fun _ hk => run_idxArr (T := 170) (b := 5) (o := 0) (ix := p0_3) (len := 4) (s := 1) (by kernel_rfl) (by kernel_rfl) hc29) ?_
     refine AnyE.loadTab 3 35 2 9 en_5 tab_5 0 1 p0_3 (.string (rdD tab_5 p0_3)) [] (o := 0 + (Int.toNat p0_3) * 1 + 0) h26 rfl (by kernel_rfl) hS27 rfl rfl (fun _ => rfl) (by kernel_rfl) (by omega) hc29 (fun _ => by kernel_rfl) ?_
     refine AnyE.pure 4 36 (.pointer (some ⟨b2, 7, none⟩)) (by kernel_rfl) hS27 (fun _ => by kernel_rfl) ?_
     refine AnyE.loadBox 5 37 0 3 b2 7 (.int .i64 p0_2) [] h26 rfl (by kernel_rfl) hS27 rfl rfl (by kernel_rfl) (by kernel_rfl) ?_
     refine AnyE.pure 6 38 (.int .i64 (IntKind.wrap .i64 (p0_2 - 4))) (by kernel_rfl) hS27 (fun _ => by kernel_rfl) ?_
     obtain ⟨hc30, h⟩ := of_cond0 h
     refine AnyE.run 7 39 (.pointer (some ⟨4, 0 + (Int.toNat (IntKind.wrap .i64 (p0_2 - 4))) * 1, none⟩)) (by kernel_rfl) hS27 (fun _ hk => run_idxArr (T := 170) (b := 4) (o := 0) (ix := (IntKind.wrap .i64 (p0_2 - 4))) (len := 4) (s := 1) (by kernel_rfl) (by kernel_rfl) hc30) ?_
     refine AnyE.loadTab 8 40 1 9 en_4 tab_4 0 1 (IntKind.wrap .i64 (p0_2 - 4)) (.string (rdD tab_4 (IntKind.wrap .i64 (p0_2 - 4)))) [] (o := 0 + (Int.toNat (IntKind.wrap .i64 (p0_2 - 4))) * 1 + 0) h26 rfl (by kernel_rfl) hS27 rfl rfl (fun _ => rfl) (by kernel_rfl) (by omega) hc30 (fun _ => by kernel_rfl) ?_
     obtain ⟨hc31, h⟩ := of_cond0 h
     refine AnyE.run 9 41 (.string ((rdD tab_5 p0_3) ++ (rdD tab_4 (IntKind.wrap .i64 (p0_2 - 4))))) (by kernel_rfl) hS27 (fun _ hk => run_cat (a := (rdD tab_5 p0_3)) (b := (rdD tab_4 (IntKind.wrap .i64 (p0_2 - 4)))) (by kernel_rfl) hc31) ?_
     refine AnyE.pure 10 2 (.string ((rdD tab_5 p0_3) ++ (rdD tab_4 (IntKind.wrap .i64 (p0_2 - 4))))) (by kernel_rfl) hS27 (fun _ => by kernel_rfl) ?_
     refine AnyE.done (by kernel_rfl) (fun w32 hu33 => ?_)
     have h34 := h26.call hu33
     refine RunsI.l [2] [(2, .string ((rdD tab_5 p0_3) ++ (rdD tab_4 (IntKind.wrap .i64 (p0_2 - 4)))))] ?_
     refine RunsI.t (.string ((rdD tab_5 p0_3) ++ (rdD tab_4 (IntKind.wrap .i64 (p0_2 - 4))))) ?_
     obtain rfl := Option.some.inj h
     exact ⟨rfl, h34.below⟩
   clear hJ20
   rcases of_cond h with ⟨hc15, h⟩ | ⟨hc15, h⟩
   ·skip
    refine RegI.f 21 true hc15 ?_
    refine RegI.p 1 [(1, .pointer (some ⟨b2, 0, none⟩)), (21, .bool true), (22, .pointer (some ⟨b2, 7, none⟩))] ?_
    refine RegI.o (OpE.loadBox 23 0 3 b2 7 (.int .i64 p0_2) h9 (by kernel_rfl) (by kernel_rfl) rfl (by kernel_rfl) ?_)
    refine RegI.p 2 [(1, .pointer (some ⟨b2, 0, none⟩)), (25, .bool (decide (p0_2 < 6)))] ?_
    refine RegI.l [1, 25] [(1, .pointer (some ⟨b2, 0, none⟩)), (25, .bool (decide (p0_2 < 6)))] ?_
    exact hj21 (decide (p0_2 < 6)) w10 h (h9.pick [0, 1, 2, 3, 4, 5, 6, 7, 8, 9] (by decide))
   ·skip
    refine RegI.f 21 false hc15 ?_
    refine RegI.p 4 [(1, .pointer (some ⟨b2, 0, none⟩)), (25, .bool false)] ?_
    refine RegI.l [1, 25] [(1, .pointer (some ⟨b2, 0, none⟩)), (25, .bool false)] ?_
    exact hj21 false w10 h (h9.pick [0, 1, 2, 3, 4, 5, 6, 7, 8, 9] (by decide))
  ·skip
   refine RunsI.f 4 false hc14 ?_
   refine RunsI.b false 18 ?_
   refine RunsI.g 1 [.c 19, .c 20, .blk 0, .c 25] ?_
   refine RunsI.r ?_
   refine RegI.p 1 [(1, .pointer (some ⟨b2, 0, none⟩)), (43, .pointer (some ⟨b2, 6, none⟩))] ?_
   refine RegI.o (OpE.loadBox 44 0 3 b2 6 (.int .i64 p0_1) h9 (by kernel_rfl) (by kernel_rfl) rfl (by kernel_rfl) ?_)
   refine RegI.p 2 [(1, .pointer (some ⟨b2, 0, none⟩)), (42, .bool (p0_1 != 1))] ?_
   refine RegI.d ?_
   rcases of_cond h with ⟨hc35, h⟩ | ⟨hc35, h⟩
   ·skip
    refine RunsI.f 42 true hc35 ?_
    refine RunsI.b true 21 ?_
    refine RunsI.g 1 [.c 22, .c 23, .blk 0, .c 25] ?_
    refine RunsI.r ?_
    refine RegI.p 1 [(2, .string (⟨#[110, 111, 112, 42]⟩ : ByteArray))] ?_
    refine RegI.d ?_
    refine RunsI.t (.string (⟨#[110, 111, 112, 42]⟩ : ByteArray)) ?_
    obtain rfl := Option.some.inj h
    exact ⟨rfl, h9.below⟩
   ·skip
    refine RunsI.f 42 false hc35 ?_
    refine RunsI.b false 24 ?_
    refine RunsI.g 1 [.blk 0, .c 25] ?_
    refine RunsI.g 2 [.c 26, .c 27] ?_
    refine RunsI.r ?_
    refine RegI.p 1 [(1, .pointer (some ⟨b2, 0, none⟩)), (46, .pointer (some ⟨b2, 7, none⟩))] ?_
    refine RegI.o (OpE.loadBox 47 0 3 b2 7 (.int .i64 p0_2) h9 (by kernel_rfl) (by kernel_rfl) rfl (by kernel_rfl) ?_)
    obtain ⟨hc36, h⟩ := of_cond0 h
    refine RegI.o (OpE.run 48 (by kernel_rfl) (run_idxArr (T := 169) (b := 6) (o := 0) (ix := p0_2) (len := 8) (s := 1) (by kernel_rfl) (by kernel_rfl) hc36) ?_)
    refine RegI.o (OpE.loadTab 49 3 9 en_6 tab_6 0 1 p0_2 (.string (rdD tab_6 p0_2)) (o := 0 + (Int.toNat p0_2) * 1 + 0) h9 (by kernel_rfl) rfl (fun _ => rfl) (by kernel_rfl) (by omega) hc36 (fun _ => by kernel_rfl) ?_)
    refine RegI.p 1 [(1, .pointer (some ⟨b2, 0, none⟩)), (3, .string (rdD tab_6 p0_2))] ?_
    refine RegI.d ?_
    refine RunsI.g 2 [.c 29, .c 30, .c 102] ?_
    refine RunsI.r ?_
    refine RegI.p 1 [(1, .pointer (some ⟨b2, 0, none⟩)), (3, .string (rdD tab_6 p0_2)), (50, .pointer (some ⟨b2, 8, none⟩))] ?_
    refine RegI.o (OpE.loadBox 51 0 3 b2 8 (.int .i64 p0_3) h9 (by kernel_rfl) (by kernel_rfl) rfl (by kernel_rfl) ?_)
    refine RegI.d ?_
    refine RunsI.g 2 [.c 32, .c 33, .blk 1, .c 102] ?_
    refine RunsI.r ?_
    refine RegI.p 2 [(1, .pointer (some ⟨b2, 0, none⟩)), (3, .string (rdD tab_6 p0_2)), (51, .int .i64 p0_3), (52, .bool (p0_3 == 0))] ?_
    refine RegI.d ?_
    rcases of_cond h with ⟨hc37, h⟩ | ⟨hc37, h⟩
    ·skip
     refine RunsI.f 52 true hc37 ?_
     refine RunsI.b true 34 ?_
     refine RunsI.g 2 [.c 36, .c 37, .c 40, .blk 1, .c 102] ?_
     refine RunsI.r ?_
     refine RegI.p 1 [(3, .string (rdD tab_6 p0_2)), (54, .pointer (some ⟨b2, 7, none⟩))] ?_
     refine RegI.o (OpE.loadBox 55 0 3 b2 7 (.int .i64 p0_2) h9 (by kernel_rfl) (by kernel_rfl) rfl (by kernel_rfl) ?_)
     refine RegI.p 1 [(3, .string (rdD tab_6 p0_2)), (56, .bool (p0_2 == 6))] ?_
     refine RegI.d ?_
     rcases of_cond h with ⟨hc38, h⟩ | ⟨hc38, h⟩
     ·skip
      refine RunsI.f 56 true hc38 ?_
      refine RunsI.b true 38 ?_
      refine RunsI.r ?_
      refine RegI.p 1 [(3, .string (⟨#[102]⟩ : ByteArray))] ?_
      refine RegI.d ?_
      refine RunsI.g 1 [.c 41, .c 42, .blk 1, .c 102] ?_
      refine RunsI.r ?_
      refine RegI.p 1 [(57, .string (⟨#[102]⟩ : ByteArray))] ?_
      obtain ⟨hc39, h⟩ := of_cond0 h
      refine RegI.o (OpE.run 58 (by kernel_rfl) (run_cat (a := (⟨#[105, 110, 32]⟩ : ByteArray)) (b := (⟨#[102]⟩ : ByteArray)) (by kernel_rfl) hc39) ?_)
      obtain ⟨hc40, h⟩ := of_cond0 h
      refine RegI.o (OpE.run 59 (by kernel_rfl) (run_cat (a := ((⟨#[105, 110, 32]⟩ : ByteArray) ++ (⟨#[102]⟩ : ByteArray))) (b := (⟨#[44, 40, 99, 41]⟩ : ByteArray)) (by kernel_rfl) hc40) ?_)
      refine RegI.p 1 [(2, .string (((⟨#[105, 110, 32]⟩ : ByteArray) ++ (⟨#[102]⟩ : ByteArray)) ++ (⟨#[44, 40, 99, 41]⟩ : ByteArray)))] ?_
      refine RegI.d ?_
      refine RunsI.t (.string (((⟨#[105, 110, 32]⟩ : ByteArray) ++ (⟨#[102]⟩ : ByteArray)) ++ (⟨#[44, 40, 99, 41]⟩ : ByteArray))) ?_
      obtain rfl := Option.some.inj h
      exact ⟨rfl, h9.below⟩
     ·skip
      refine RunsI.f 56 false hc38 ?_
      refine RunsI.b false 39 ?_
      refine RunsI.g 1 [.c 40, .blk 1, .c 102] ?_
      refine RunsI.g 1 [.c 41, .c 42, .blk 1, .c 102] ?_
      refine RunsI.r ?_
      refine RegI.p 1 [(57, .string (rdD tab_6 p0_2))] ?_
      obtain ⟨hc41, h⟩ := of_cond0 h
      refine RegI.o (OpE.run 58 (by kernel_rfl) (run_cat (a := (⟨#[105, 110, 32]⟩ : ByteArray)) (b := (rdD tab_6 p0_2)) (by kernel_rfl) hc41) ?_)
      obtain ⟨hc42, h⟩ := of_cond0 h
      refine RegI.o (OpE.run 59 (by kernel_rfl) (run_cat (a := ((⟨#[105, 110, 32]⟩ : ByteArray) ++ (rdD tab_6 p0_2))) (b := (⟨#[44, 40, 99, 41]⟩ : ByteArray)) (by kernel_rfl) hc42) ?_)
      refine RegI.p 1 [(2, .string (((⟨#[105, 110, 32]⟩ : ByteArray) ++ (rdD tab_6 p0_2)) ++ (⟨#[44, 40, 99, 41]⟩ : ByteArray)))] ?_
      refine RegI.d ?_
      refine RunsI.t (.string (((⟨#[105, 110, 32]⟩ : ByteArray) ++ (rdD tab_6 p0_2)) ++ (⟨#[44, 40, 99, 41]⟩ : ByteArray))) ?_
      obtain rfl := Option.some.inj h
      exact ⟨rfl, h9.below⟩
    ·skip
     refine RunsI.f 52 false hc37 ?_
     refine RunsI.b false 43 ?_
     refine RunsI.g 1 [.c 44, .c 45, .blk 1, .c 102] ?_
     refine RunsI.r ?_
     refine RegI.p 2 [(1, .pointer (some ⟨b2, 0, none⟩)), (3, .string (rdD tab_6 p0_2)), (51, .int .i64 p0_3), (60, .bool (p0_3 == 1))] ?_
     refine RegI.d ?_
     rcases of_cond h with ⟨hc43, h⟩ | ⟨hc43, h⟩
     ·skip
      refine RunsI.f 60 true hc43 ?_
      refine RunsI.b true 46 ?_
      refine RunsI.g 2 [.c 48, .c 49, .c 52, .blk 1, .c 102] ?_
      refine RunsI.r ?_
      refine RegI.p 1 [(3, .string (rdD tab_6 p0_2)), (62, .pointer (some ⟨b2, 7, none⟩))] ?_
      refine RegI.o (OpE.loadBox 63 0 3 b2 7 (.int .i64 p0_2) h9 (by kernel_rfl) (by kernel_rfl) rfl (by kernel_rfl) ?_)
      refine RegI.p 1 [(3, .string (rdD tab_6 p0_2)), (64, .bool (p0_2 == 6))] ?_
      refine RegI.d ?_
      rcases of_cond h with ⟨hc44, h⟩ | ⟨hc44, h⟩
      ·skip
       refine RunsI.f 64 true hc44 ?_
       refine RunsI.b true 50 ?_
       refine RunsI.r ?_
       refine RegI.p 1 [(3, .string (⟨#[48]⟩ : ByteArray))] ?_
       refine RegI.d ?_
       refine RunsI.g 1 [.c 53, .c 54, .blk 1, .c 102] ?_
       refine RunsI.r ?_
       refine RegI.p 1 [(65, .string (⟨#[48]⟩ : ByteArray))] ?_
       obtain ⟨hc45, h⟩ := of_cond0 h
       refine RegI.o (OpE.run 66 (by kernel_rfl) (run_cat (a := (⟨#[111, 117, 116, 32, 40, 99, 41, 44]⟩ : ByteArray)) (b := (⟨#[48]⟩ : ByteArray)) (by kernel_rfl) hc45) ?_)
       refine RegI.p 1 [(2, .string ((⟨#[111, 117, 116, 32, 40, 99, 41, 44]⟩ : ByteArray) ++ (⟨#[48]⟩ : ByteArray)))] ?_
       refine RegI.d ?_
       refine RunsI.t (.string ((⟨#[111, 117, 116, 32, 40, 99, 41, 44]⟩ : ByteArray) ++ (⟨#[48]⟩ : ByteArray))) ?_
       obtain rfl := Option.some.inj h
       exact ⟨rfl, h9.below⟩
      ·skip
       refine RunsI.f 64 false hc44 ?_
       refine RunsI.b false 51 ?_
       refine RunsI.g 1 [.c 52, .blk 1, .c 102] ?_
       refine RunsI.g 1 [.c 53, .c 54, .blk 1, .c 102] ?_
       refine RunsI.r ?_
       refine RegI.p 1 [(65, .string (rdD tab_6 p0_2))] ?_
       obtain ⟨hc46, h⟩ := of_cond0 h
       refine RegI.o (OpE.run 66 (by kernel_rfl) (run_cat (a := (⟨#[111, 117, 116, 32, 40, 99, 41, 44]⟩ : ByteArray)) (b := (rdD tab_6 p0_2)) (by kernel_rfl) hc46) ?_)
       refine RegI.p 1 [(2, .string ((⟨#[111, 117, 116, 32, 40, 99, 41, 44]⟩ : ByteArray) ++ (rdD tab_6 p0_2)))] ?_
       refine RegI.d ?_
       refine RunsI.t (.string ((⟨#[111, 117, 116, 32, 40, 99, 41, 44]⟩ : ByteArray) ++ (rdD tab_6 p0_2))) ?_
       obtain rfl := Option.some.inj h
       exact ⟨rfl, h9.below⟩
     ·skip
      refine RunsI.f 60 false hc43 ?_
      refine RunsI.b false 55 ?_
      refine RunsI.g 1 [.c 56, .c 57, .blk 1, .c 102] ?_
      refine RunsI.r ?_
      refine RegI.p 2 [(1, .pointer (some ⟨b2, 0, none⟩)), (51, .int .i64 p0_3), (67, .bool (p0_3 == 2))] ?_
      refine RegI.d ?_
      rcases of_cond h with ⟨hc47, h⟩ | ⟨hc47, h⟩
      ·skip
       refine RunsI.f 67 true hc47 ?_
       refine RunsI.b true 58 ?_
       refine RunsI.g 1 [.c 59, .c 60, .blk 1, .c 102] ?_
       refine RunsI.any 10 (by kernel_rfl) (by kernel_rfl) (by kernel_rfl) (Kp ([] : List Nat) (World.drew w10)) ?_
       have h49 := h9.drew
       generalize World.drew w10 = w48 at h49 ⊢
       have hS50 := Kp.refl ([] : List Nat) w48
       refine AnyE.pure 0 69 (.agg #[.string (⟨#[115, 98, 99, 32, 104, 108, 44]⟩ : ByteArray), .string (⟨#[97, 100, 99, 32, 104, 108, 44]⟩ : ByteArray)]) (by kernel_rfl) hS50 (fun _ => by kernel_rfl) ?_
       refine AnyE.pure 1 70 (.pointer (some ⟨b2, 10, none⟩)) (by kernel_rfl) hS50 (fun _ => by kernel_rfl) ?_
       refine AnyE.loadBox 2 71 0 3 b2 10 (.int .i64 p0_5) [] h49 rfl (by kernel_rfl) hS50 rfl rfl (by kernel_rfl) (by kernel_rfl) ?_
       obtain ⟨hc52, h⟩ := of_cond0 h
       refine AnyE.run 3 72 (.string (rdD ([(⟨#[115, 98, 99, 32, 104, 108, 44]⟩ : ByteArray), (⟨#[97, 100, 99, 32, 104, 108, 44]⟩ : ByteArray)] : List ByteArray) p0_5)) (by kernel_rfl) hS50 (fun _ hk => run_indexTab (T0 := 172) (en := (fun (x : ByteArray) => ([.string x] : List Value))) (tab := ([(⟨#[115, 98, 99, 32, 104, 108, 44]⟩ : ByteArray), (⟨#[97, 100, 99, 32, 104, 108, 44]⟩ : ByteArray)] : List ByteArray)) (len := 2) (sz := 1) (j := p0_5) (v := .string (rdD ([(⟨#[115, 98, 99, 32, 104, 108, 44]⟩ : ByteArray), (⟨#[97, 100, 99, 32, 104, 108, 44]⟩ : ByteArray)] : List ByteArray) p0_5)) (fun _ => rfl) (by kernel_rfl) (by kernel_rfl) rfl hc52 (fun _ => by kernel_rfl)) ?_
       refine AnyE.pure 4 73 (.pointer (some ⟨b2, 9, none⟩)) (by kernel_rfl) hS50 (fun _ => by kernel_rfl) ?_
       refine AnyE.loadBox 5 74 0 3 b2 9 (.int .i64 p0_4) [] h49 rfl (by kernel_rfl) hS50 rfl rfl (by kernel_rfl) (by kernel_rfl) ?_
       obtain ⟨hc53, h⟩ := of_cond0 h
       refine AnyE.run 6 75 (.pointer (some ⟨7, 0 + (Int.toNat p0_4) * 1, none⟩)) (by kernel_rfl) hS50 (fun _ hk => run_idxArr (T := 173) (b := 7) (o := 0) (ix := p0_4) (len := 5) (s := 1) (by kernel_rfl) (by kernel_rfl) hc53) ?_
       refine AnyE.loadTab 7 76 4 9 en_7 tab_7 0 1 p0_4 (.string (rdD tab_7 p0_4)) [] (o := 0 + (Int.toNat p0_4) * 1 + 0) h49 rfl (by kernel_rfl) hS50 rfl rfl (fun _ => rfl) (by kernel_rfl) (by omega) hc53 (fun _ => by kernel_rfl) ?_
       obtain ⟨hc54, h⟩ := of_cond0 h
       refine AnyE.run 8 77 (.string ((rdD ([(⟨#[115, 98, 99, 32, 104, 108, 44]⟩ : ByteArray), (⟨#[97, 100, 99, 32, 104, 108, 44]⟩ : ByteArray)] : List ByteArray) p0_5) ++ (rdD tab_7 p0_4))) (by kernel_rfl) hS50 (fun _ hk => run_cat (a := (rdD ([(⟨#[115, 98, 99, 32, 104, 108, 44]⟩ : ByteArray), (⟨#[97, 100, 99, 32, 104, 108, 44]⟩ : ByteArray)] : List ByteArray) p0_5)) (b := (rdD tab_7 p0_4)) (by kernel_rfl) hc54) ?_
       refine AnyE.pure 9 2 (.string ((rdD ([(⟨#[115, 98, 99, 32, 104, 108, 44]⟩ : ByteArray), (⟨#[97, 100, 99, 32, 104, 108, 44]⟩ : ByteArray)] : List ByteArray) p0_5) ++ (rdD tab_7 p0_4))) (by kernel_rfl) hS50 (fun _ => by kernel_rfl) ?_
       refine AnyE.done (by kernel_rfl) (fun w55 hu56 => ?_)
       have h57 := h49.call hu56
       refine RunsI.l [2] [(2, .string ((rdD ([(⟨#[115, 98, 99, 32, 104, 108, 44]⟩ : ByteArray), (⟨#[97, 100, 99, 32, 104, 108, 44]⟩ : ByteArray)] : List ByteArray) p0_5) ++ (rdD tab_7 p0_4)))] ?_
       refine RunsI.t (.string ((rdD ([(⟨#[115, 98, 99, 32, 104, 108, 44]⟩ : ByteArray), (⟨#[97, 100, 99, 32, 104, 108, 44]⟩ : ByteArray)] : List ByteArray) p0_5) ++ (rdD tab_7 p0_4))) ?_
       obtain rfl := Option.some.inj h
       exact ⟨rfl, h57.below⟩
      ·skip
       refine RunsI.f 67 false hc47 ?_
       refine RunsI.b false 61 ?_
       refine RunsI.g 1 [.c 62, .c 63, .blk 1, .c 102] ?_
       refine RunsI.r ?_
       refine RegI.p 2 [(1, .pointer (some ⟨b2, 0, none⟩)), (51, .int .i64 p0_3), (78, .bool (p0_3 == 3))] ?_
       refine RegI.d ?_
       rcases of_cond h with ⟨hc58, h⟩ | ⟨hc58, h⟩
       ·skip
        refine RunsI.f 78 true hc58 ?_
        refine RunsI.b true 64 ?_
        refine RunsI.g 2 [.c 66, .c 67, .c 72, .blk 1, .c 102] ?_
        refine RunsI.r ?_
        refine RegI.p 1 [(1, .pointer (some ⟨b2, 0, none⟩)), (80, .pointer (some ⟨b2, 10, none⟩))] ?_
        refine RegI.o (OpE.loadBox 81 0 3 b2 10 (.int .i64 p0_5) h9 (by kernel_rfl) (by kernel_rfl) rfl (by kernel_rfl) ?_)
        refine RegI.p 1 [(1, .pointer (some ⟨b2, 0, none⟩)), (82, .bool (p0_5 == 1))] ?_
        refine RegI.d ?_
        rcases of_cond h with ⟨hc59, h⟩ | ⟨hc59, h⟩
        ·skip
         refine RunsI.f 82 true hc59 ?_
         refine RunsI.b true 68 ?_
         refine RunsI.g 1 [.c 69, .c 70, .c 72, .blk 1, .c 102] ?_
         refine RunsI.any 11 (by kernel_rfl) (by kernel_rfl) (by kernel_rfl) (Kp ([] : List Nat) (World.drew w10)) ?_
         have h61 := h9.drew
         generalize World.drew w10 = w60 at h61 ⊢
         have hS62 := Kp.refl ([] : List Nat) w60
         refine AnyE.pure 0 83 (.pointer (some ⟨b2, 9, none⟩)) (by kernel_rfl) hS62 (fun _ => by kernel_rfl) ?_
         refine AnyE.loadBox 1 84 0 3 b2 9 (.int .i64 p0_4) [] h61 rfl (by kernel_rfl) hS62 rfl rfl (by kernel_rfl) (by kernel_rfl) ?_
         obtain ⟨hc64, h⟩ := of_cond0 h
         refine AnyE.run 2 85 (.pointer (some ⟨7, 0 + (Int.toNat p0_4) * 1, none⟩)) (by kernel_rfl) hS62 (fun _ hk => run_idxArr (T := 173) (b := 7) (o := 0) (ix := p0_4) (len := 5) (s := 1) (by kernel_rfl) (by kernel_rfl) hc64) ?_
         refine AnyE.loadTab 3 86 4 9 en_7 tab_7 0 1 p0_4 (.string (rdD tab_7 p0_4)) [] (o := 0 + (Int.toNat p0_4) * 1 + 0) h61 rfl (by kernel_rfl) hS62 rfl rfl (fun _ => rfl) (by kernel_rfl) (by omega) hc64 (fun _ => by kernel_rfl) ?_
         obtain ⟨hc65, h⟩ := of_cond0 h
         refine AnyE.run 4 87 (.string ((⟨#[108, 100, 32]⟩ : ByteArray) ++ (rdD tab_7 p0_4))) (by kernel_rfl) hS62 (fun _ hk => run_cat (a := (⟨#[108, 100, 32]⟩ : ByteArray)) (b := (rdD tab_7 p0_4)) (by kernel_rfl) hc65) ?_
         obtain ⟨hc66, h⟩ := of_cond0 h
         refine AnyE.run 5 88 (.string (((⟨#[108, 100, 32]⟩ : ByteArray) ++ (rdD tab_7 p0_4)) ++ (⟨#[44, 40]⟩ : ByteArray))) (by kernel_rfl) hS62 (fun _ hk => run_cat (a := ((⟨#[108, 100, 32]⟩ : ByteArray) ++ (rdD tab_7 p0_4))) (b := (⟨#[44, 40]⟩ : ByteArray)) (by kernel_rfl) hc66) ?_
         refine AnyE.loadBox 6 89 0 126 b2 0 (.agg #[.int .i64 p0_0_0, .int .u8 p0_0_1, .int .u8 p0_0_2, .int .u16 p0_0_3, .int .i64 p0_0_4, .int .i64 p0_0_5, .int .i64 p0_1, .int .i64 p0_2, .int .i64 p0_3, .int .i64 p0_4, .int .i64 p0_5]) [] h61 rfl (by kernel_rfl) hS62 rfl rfl (by kernel_rfl) (by kernel_rfl) ?_
         obtain ⟨t68, hg67, h⟩ := of_bind h
         refine AnyE.call 7 90 (.string t68) 148 #[.agg #[.int .i64 p0_0_0, .int .u8 p0_0_1, .int .u8 p0_0_2, .int .u16 p0_0_3, .int .i64 p0_0_4, .int .i64 p0_0_5, .int .i64 p0_1, .int .i64 p0_2, .int .i64 p0_3, .int .i64 p0_4, .int .i64 p0_5]] (by kernel_rfl) hS62 (fun _ => by kernel_rfl) (fun w hk => text_shown_nn_148_ok K (fun _ => False) w p0_0_0 p0_0_1 p0_0_2 p0_0_3 p0_0_4 p0_0_5 p0_1 p0_2 p0_3 p0_4 p0_5 (fun _ hf => hf.elim) ⟨(h61.atI [] rfl hk 7 rfl rfl).1, fun hf => hf.elim, (h61.atI [] rfl hk 7 rfl rfl).2.2⟩ ⟨(h61.atI [] rfl hk 8 rfl rfl).1, fun hf => hf.elim, (h61.atI [] rfl hk 8 rfl rfl).2.2⟩ ⟨(h61.atI [] rfl hk 9 rfl rfl).1, fun hf => hf.elim, (h61.atI [] rfl hk 9 rfl rfl).2.2⟩ hg67) ?_
         obtain ⟨hc69, h⟩ := of_cond0 h
         refine AnyE.run 8 91 (.string ((((⟨#[108, 100, 32]⟩ : ByteArray) ++ (rdD tab_7 p0_4)) ++ (⟨#[44, 40]⟩ : ByteArray)) ++ t68)) (by kernel_rfl) hS62 (fun _ hk => run_cat (a := (((⟨#[108, 100, 32]⟩ : ByteArray) ++ (rdD tab_7 p0_4)) ++ (⟨#[44, 40]⟩ : ByteArray))) (b := t68) (by kernel_rfl) hc69) ?_
         obtain ⟨hc70, h⟩ := of_cond0 h
         refine AnyE.run 9 92 (.string (((((⟨#[108, 100, 32]⟩ : ByteArray) ++ (rdD tab_7 p0_4)) ++ (⟨#[44, 40]⟩ : ByteArray)) ++ t68) ++ (⟨#[41]⟩ : ByteArray))) (by kernel_rfl) hS62 (fun _ hk => run_cat (a := ((((⟨#[108, 100, 32]⟩ : ByteArray) ++ (rdD tab_7 p0_4)) ++ (⟨#[44, 40]⟩ : ByteArray)) ++ t68)) (b := (⟨#[41]⟩ : ByteArray)) (by kernel_rfl) hc70) ?_
         refine AnyE.pure 10 2 (.string (((((⟨#[108, 100, 32]⟩ : ByteArray) ++ (rdD tab_7 p0_4)) ++ (⟨#[44, 40]⟩ : ByteArray)) ++ t68) ++ (⟨#[41]⟩ : ByteArray))) (by kernel_rfl) hS62 (fun _ => by kernel_rfl) ?_
         refine AnyE.done (by kernel_rfl) (fun w71 hu72 => ?_)
         have h73 := h61.call hu72
         refine RunsI.l [2] [(2, .string (((((⟨#[108, 100, 32]⟩ : ByteArray) ++ (rdD tab_7 p0_4)) ++ (⟨#[44, 40]⟩ : ByteArray)) ++ t68) ++ (⟨#[41]⟩ : ByteArray)))] ?_
         refine RunsI.t (.string (((((⟨#[108, 100, 32]⟩ : ByteArray) ++ (rdD tab_7 p0_4)) ++ (⟨#[44, 40]⟩ : ByteArray)) ++ t68) ++ (⟨#[41]⟩ : ByteArray))) ?_
         obtain rfl := Option.some.inj h
         exact ⟨rfl, h73.below⟩
        ·skip
         refine RunsI.f 82 false hc59 ?_
         refine RunsI.b false 71 ?_
         refine RunsI.g 1 [.c 72, .blk 1, .c 102] ?_
         refine RunsI.g 1 [.c 73, .c 74, .blk 1, .c 102] ?_
         refine RunsI.any 10 (by kernel_rfl) (by kernel_rfl) (by kernel_rfl) (Kp ([] : List Nat) (World.drew w10)) ?_
         have h75 := h9.drew
         generalize World.drew w10 = w74 at h75 ⊢
         have hS76 := Kp.refl ([] : List Nat) w74
         refine AnyE.loadBox 0 93 0 126 b2 0 (.agg #[.int .i64 p0_0_0, .int .u8 p0_0_1, .int .u8 p0_0_2, .int .u16 p0_0_3, .int .i64 p0_0_4, .int .i64 p0_0_5, .int .i64 p0_1, .int .i64 p0_2, .int .i64 p0_3, .int .i64 p0_4, .int .i64 p0_5]) [] h75 rfl (by kernel_rfl) hS76 rfl rfl (by kernel_rfl) (by kernel_rfl) ?_
         obtain ⟨t79, hg78, h⟩ := of_bind h
         refine AnyE.call 1 94 (.string t79) 148 #[.agg #[.int .i64 p0_0_0, .int .u8 p0_0_1, .int .u8 p0_0_2, .int .u16 p0_0_3, .int .i64 p0_0_4, .int .i64 p0_0_5, .int .i64 p0_1, .int .i64 p0_2, .int .i64 p0_3, .int .i64 p0_4, .int .i64 p0_5]] (by kernel_rfl) hS76 (fun _ => by kernel_rfl) (fun w hk => text_shown_nn_148_ok K (fun _ => False) w p0_0_0 p0_0_1 p0_0_2 p0_0_3 p0_0_4 p0_0_5 p0_1 p0_2 p0_3 p0_4 p0_5 (fun _ hf => hf.elim) ⟨(h75.atI [] rfl hk 7 rfl rfl).1, fun hf => hf.elim, (h75.atI [] rfl hk 7 rfl rfl).2.2⟩ ⟨(h75.atI [] rfl hk 8 rfl rfl).1, fun hf => hf.elim, (h75.atI [] rfl hk 8 rfl rfl).2.2⟩ ⟨(h75.atI [] rfl hk 9 rfl rfl).1, fun hf => hf.elim, (h75.atI [] rfl hk 9 rfl rfl).2.2⟩ hg78) ?_
         obtain ⟨hc80, h⟩ := of_cond0 h
         refine AnyE.run 2 95 (.string ((⟨#[108, 100, 32, 40]⟩ : ByteArray) ++ t79)) (by kernel_rfl) hS76 (fun _ hk => run_cat (a := (⟨#[108, 100, 32, 40]⟩ : ByteArray)) (b := t79) (by kernel_rfl) hc80) ?_
         obtain ⟨hc81, h⟩ := of_cond0 h
         refine AnyE.run 3 96 (.string (((⟨#[108, 100, 32, 40]⟩ : ByteArray) ++ t79) ++ (⟨#[41, 44]⟩ : ByteArray))) (by kernel_rfl) hS76 (fun _ hk => run_cat (a := ((⟨#[108, 100, 32, 40]⟩ : ByteArray) ++ t79)) (b := (⟨#[41, 44]⟩ : ByteArray)) (by kernel_rfl) hc81) ?_
         refine AnyE.pure 4 97 (.pointer (some ⟨b2, 9, none⟩)) (by kernel_rfl) hS76 (fun _ => by kernel_rfl) ?_
         refine AnyE.loadBox 5 98 0 3 b2 9 (.int .i64 p0_4) [] h75 rfl (by kernel_rfl) hS76 rfl rfl (by kernel_rfl) (by kernel_rfl) ?_
         obtain ⟨hc82, h⟩ := of_cond0 h
         refine AnyE.run 6 99 (.pointer (some ⟨7, 0 + (Int.toNat p0_4) * 1, none⟩)) (by kernel_rfl) hS76 (fun _ hk => run_idxArr (T := 173) (b := 7) (o := 0) (ix := p0_4) (len := 5) (s := 1) (by kernel_rfl) (by kernel_rfl) hc82) ?_
         refine AnyE.loadTab 7 100 4 9 en_7 tab_7 0 1 p0_4 (.string (rdD tab_7 p0_4)) [] (o := 0 + (Int.toNat p0_4) * 1 + 0) h75 rfl (by kernel_rfl) hS76 rfl rfl (fun _ => rfl) (by kernel_rfl) (by omega) hc82 (fun _ => by kernel_rfl) ?_
         obtain ⟨hc83, h⟩ := of_cond0 h
         refine AnyE.run 8 101 (.string ((((⟨#[108, 100, 32, 40]⟩ : ByteArray) ++ t79) ++ (⟨#[41, 44]⟩ : ByteArray)) ++ (rdD tab_7 p0_4))) (by kernel_rfl) hS76 (fun _ hk => run_cat (a := (((⟨#[108, 100, 32, 40]⟩ : ByteArray) ++ t79) ++ (⟨#[41, 44]⟩ : ByteArray))) (b := (rdD tab_7 p0_4)) (by kernel_rfl) hc83) ?_
         refine AnyE.pure 9 2 (.string ((((⟨#[108, 100, 32, 40]⟩ : ByteArray) ++ t79) ++ (⟨#[41, 44]⟩ : ByteArray)) ++ (rdD tab_7 p0_4))) (by kernel_rfl) hS76 (fun _ => by kernel_rfl) ?_
         refine AnyE.done (by kernel_rfl) (fun w84 hu85 => ?_)
         have h86 := h75.call hu85
         refine RunsI.l [2] [(2, .string ((((⟨#[108, 100, 32, 40]⟩ : ByteArray) ++ t79) ++ (⟨#[41, 44]⟩ : ByteArray)) ++ (rdD tab_7 p0_4)))] ?_
         refine RunsI.t (.string ((((⟨#[108, 100, 32, 40]⟩ : ByteArray) ++ t79) ++ (⟨#[41, 44]⟩ : ByteArray)) ++ (rdD tab_7 p0_4))) ?_
         obtain rfl := Option.some.inj h
         exact ⟨rfl, h86.below⟩
       ·skip
        refine RunsI.f 78 false hc58 ?_
        refine RunsI.b false 75 ?_
        refine RunsI.g 1 [.c 76, .c 77, .blk 1, .c 102] ?_
        refine RunsI.r ?_
        refine RegI.p 2 [(1, .pointer (some ⟨b2, 0, none⟩)), (51, .int .i64 p0_3), (102, .bool (p0_3 == 4))] ?_
        refine RegI.d ?_
        rcases of_cond h with ⟨hc87, h⟩ | ⟨hc87, h⟩
        ·skip
         refine RunsI.f 102 true hc87 ?_
         refine RunsI.b true 78 ?_
         refine RunsI.g 1 [.c 79, .c 80, .blk 1, .c 102] ?_
         refine RunsI.r ?_
         refine RegI.p 1 [(2, .string (⟨#[110, 101, 103]⟩ : ByteArray))] ?_
         refine RegI.d ?_
         refine RunsI.t (.string (⟨#[110, 101, 103]⟩ : ByteArray)) ?_
         obtain rfl := Option.some.inj h
         exact ⟨rfl, h9.below⟩
        ·skip
         refine RunsI.f 102 false hc87 ?_
         refine RunsI.b false 81 ?_
         refine RunsI.g 1 [.c 82, .c 83, .blk 1, .c 102] ?_
         refine RunsI.r ?_
         refine RegI.p 2 [(1, .pointer (some ⟨b2, 0, none⟩)), (51, .int .i64 p0_3), (104, .bool (p0_3 == 5))] ?_
         refine RegI.d ?_
         rcases of_cond h with ⟨hc88, h⟩ | ⟨hc88, h⟩
         ·skip
          refine RunsI.f 104 true hc88 ?_
          refine RunsI.b true 84 ?_
          refine RunsI.g 2 [.c 86, .c 87, .c 92, .blk 1, .c 102] ?_
          refine RunsI.r ?_
          refine RegI.p 1 [(106, .pointer (some ⟨b2, 7, none⟩))] ?_
          refine RegI.o (OpE.loadBox 107 0 3 b2 7 (.int .i64 p0_2) h9 (by kernel_rfl) (by kernel_rfl) rfl (by kernel_rfl) ?_)
          refine RegI.p 1 [(108, .bool (p0_2 == 1))] ?_
          refine RegI.d ?_
          rcases of_cond h with ⟨hc89, h⟩ | ⟨hc89, h⟩
          ·skip
           refine RunsI.f 108 true hc89 ?_
           refine RunsI.b true 88 ?_
           refine RunsI.g 1 [.c 89, .c 90, .c 92, .blk 1, .c 102] ?_
           refine RunsI.r ?_
           refine RegI.p 1 [(2, .string (⟨#[114, 101, 116, 105]⟩ : ByteArray))] ?_
           refine RegI.d ?_
           refine RunsI.t (.string (⟨#[114, 101, 116, 105]⟩ : ByteArray)) ?_
           obtain rfl := Option.some.inj h
           exact ⟨rfl, h9.below⟩
          ·skip
           refine RunsI.f 108 false hc89 ?_
           refine RunsI.b false 91 ?_
           refine RunsI.g 1 [.c 92, .blk 1, .c 102] ?_
           refine RunsI.g 1 [.c 93, .c 94, .blk 1, .c 102] ?_
           refine RunsI.r ?_
           refine RegI.p 1 [(2, .string (⟨#[114, 101, 116, 110]⟩ : ByteArray))] ?_
           refine RegI.d ?_
           refine RunsI.t (.string (⟨#[114, 101, 116, 110]⟩ : ByteArray)) ?_
           obtain rfl := Option.some.inj h
           exact ⟨rfl, h9.below⟩
         ·skip
          refine RunsI.f 104 false hc88 ?_
          refine RunsI.b false 95 ?_
          refine RunsI.g 1 [.c 96, .c 97, .blk 1, .c 102] ?_
          refine RunsI.r ?_
          refine RegI.p 2 [(1, .pointer (some ⟨b2, 0, none⟩)), (109, .bool (p0_3 == 6))] ?_
          refine RegI.d ?_
          rcases of_cond h with ⟨hc90, h⟩ | ⟨hc90, h⟩
          ·skip
           refine RunsI.f 109 true hc90 ?_
           refine RunsI.b true 98 ?_
           refine RunsI.g 1 [.c 99, .c 100, .blk 1, .c 102] ?_
           refine RunsI.r ?_
           refine RegI.p 1 [(111, .pointer (some ⟨b2, 7, none⟩))] ?_
           refine RegI.o (OpE.loadBox 112 0 3 b2 7 (.int .i64 p0_2) h9 (by kernel_rfl) (by kernel_rfl) rfl (by kernel_rfl) ?_)
           refine RegI.p 1 [(113, .int .i64 (band .i64 p0_2 3))] ?_
           obtain ⟨hc91, h⟩ := of_cond0 h
           refine RegI.o (OpE.run 114 (by kernel_rfl) (run_idxArr (T := 170) (b := 8) (o := 0) (ix := (band .i64 p0_2 3)) (len := 4) (s := 1) (by kernel_rfl) (by kernel_rfl) hc91) ?_)
           refine RegI.o (OpE.loadTab 115 5 9 en_8 tab_8 0 1 (band .i64 p0_2 3) (.string (rdD tab_8 (band .i64 p0_2 3))) (o := 0 + (Int.toNat (band .i64 p0_2 3)) * 1 + 0) h9 (by kernel_rfl) rfl (fun _ => rfl) (by kernel_rfl) (by omega) hc91 (fun _ => by kernel_rfl) ?_)
           refine RegI.p 1 [(2, .string (rdD tab_8 (band .i64 p0_2 3)))] ?_
           refine RegI.d ?_
           refine RunsI.t (.string (rdD tab_8 (band .i64 p0_2 3))) ?_
           obtain rfl := Option.some.inj h
           exact ⟨rfl, h9.below⟩
          ·skip
           refine RunsI.f 109 false hc90 ?_
           refine RunsI.b false 101 ?_
           refine RunsI.g 1 [.blk 1, .c 102] ?_
           refine RunsI.g 2 [.c 103, .c 104] ?_
           refine RunsI.r ?_
           refine RegI.p 1 [(116, .pointer (some ⟨b2, 7, none⟩))] ?_
           refine RegI.o (OpE.loadBox 117 0 3 b2 7 (.int .i64 p0_2) h9 (by kernel_rfl) (by kernel_rfl) rfl (by kernel_rfl) ?_)
           refine RegI.o (OpE.run 118 (by kernel_rfl) (run_idxArr (T := 169) (b := 9) (o := 0) (ix := p0_2) (len := 8) (s := 1) (by kernel_rfl) (by kernel_rfl) hc36) ?_)
           refine RegI.o (OpE.loadTab 119 6 9 en_9 tab_9 0 1 p0_2 (.string (rdD tab_9 p0_2)) (o := 0 + (Int.toNat p0_2) * 1 + 0) h9 (by kernel_rfl) rfl (fun _ => rfl) (by kernel_rfl) (by omega) hc36 (fun _ => by kernel_rfl) ?_)
           refine RegI.p 1 [(2, .string (rdD tab_9 p0_2))] ?_
           refine RegI.d ?_
           refine RunsI.t (.string (rdD tab_9 p0_2)) ?_
           obtain rfl := Option.some.inj h
           exact ⟨rfl, h9.below⟩
 clear hJ12
 rcases of_cond h with ⟨hc6, h⟩ | ⟨hc6, h⟩
 ·skip
  refine RegI.f 8 true hc6 ?_
  refine RegI.p 1 [(1, .pointer (some ⟨b2, 0, none⟩)), (8, .bool true), (9, .pointer (some ⟨b2, 8, none⟩))] ?_
  refine RegI.o (OpE.loadBox 10 9 3 b2 8 (.int .i64 p0_3) h3 (by kernel_rfl) (by kernel_rfl) rfl (by kernel_rfl) ?_)
  refine RegI.p 3 [(1, .pointer (some ⟨b2, 0, none⟩)), (13, .bool (decide (p0_3 < 4)))] ?_
  rcases of_cond h with ⟨hc7, h⟩ | ⟨hc7, h⟩
  ·skip
   refine RegI.f 13 true hc7 ?_
   refine RegI.p 1 [(1, .pointer (some ⟨b2, 0, none⟩)), (13, .bool true), (14, .pointer (some ⟨b2, 7, none⟩))] ?_
   refine RegI.o (OpE.loadBox 15 9 3 b2 7 (.int .i64 p0_2) h3 (by kernel_rfl) (by kernel_rfl) rfl (by kernel_rfl) ?_)
   refine RegI.p 3 [(1, .pointer (some ⟨b2, 0, none⟩)), (4, .bool (decide (p0_2 > 3)))] ?_
   refine RegI.l [1, 4] [(1, .pointer (some ⟨b2, 0, none⟩)), (4, .bool (decide (p0_2 > 3)))] ?_
   exact hj13 (decide (p0_2 > 3)) w1 h (h3.pick [9, 0, 1, 2, 3, 4, 5, 6, 7, 8] (by decide))
  ·skip
   refine RegI.f 13 false hc7 ?_
   refine RegI.p 5 [(1, .pointer (some ⟨b2, 0, none⟩)), (4, .bool false)] ?_
   refine RegI.l [1, 4] [(1, .pointer (some ⟨b2, 0, none⟩)), (4, .bool false)] ?_
   exact hj13 false w1 h (h3.pick [9, 0, 1, 2, 3, 4, 5, 6, 7, 8] (by decide))
 ·skip
  refine RegI.f 8 false hc6 ?_
  refine RegI.p 10 [(1, .pointer (some ⟨b2, 0, none⟩)), (4, .bool false)] ?_
  refine RegI.l [1, 4] [(1, .pointer (some ⟨b2, 0, none⟩)), (4, .bool false)] ?_
  exact hj13 false w1 h (h3.pick [9, 0, 1, 2, 3, 4, 5, 6, 7, 8] (by decide))
end

/-! ### (charabanc/text.shown).bit (function 99) -/
section
def text_shown_bit_99.post (M0 : Nat → Prop) (w0 : World) (r : ByteArray) : Ending → World → Prop := fun e w => e = .returned (.string r) ∧ Below w0.heap.size w0 w
def text_shown_bit_99.f (K : Nat) (p0_0_0 : Int) (p0_0_1 : Int) (p0_0_2 : Int) (p0_0_3 : Int) (p0_0_4 : Int) (p0_0_5 : Int) (p0_1 : Int) (p0_2 : Int) (p0_3 : Int) (p0_4 : Int) (p0_5 : Int) : Option ByteArray := cond (inR p0_3 8) (Let (fun (t23 : ByteArray) => cond (p0_1 == 0) (cond (inR p0_2 8) (cond (mayCat (rdD tab_10 p0_2).size t23.size) (some ((rdD tab_10 p0_2) ++ t23)) none) none) (cond (inR p0_1 4) ((strconv_Itoa_153.f K p0_2).bind fun t38 => cond (mayCat (rdD tab_11 p0_1).size t38.size) (cond (mayCat ((rdD tab_11 p0_1) ++ t38).size (⟨#[44]⟩ : ByteArray).size) (cond (mayCat (((rdD tab_11 p0_1) ++ t38) ++ (⟨#[44]⟩ : ByteArray)).size t23.size) (some ((((rdD tab_11 p0_1) ++ t38) ++ (⟨#[44]⟩ : ByteArray)) ++ t23)) none) none) none) none)) (fun j26 => cond (p0_0_0 != 1) ((text_Index_152.f K p0_0_0 p0_0_2).bind fun t12 => Let (fun (t14 : Bool) => cond t14 (cond (mayCat (⟨#[44]⟩ : ByteArray).size (rdD tab_6 p0_3).size) (cond (mayCat t12.size ((⟨#[44]⟩ : ByteArray) ++ (rdD tab_6 p0_3)).size) (j26 (t12 ++ ((⟨#[44]⟩ : ByteArray) ++ (rdD tab_6 p0_3)))) none) none) (j26 t12)) (fun j17 => cond (p0_1 != 1) (j17 (p0_3 != 6)) (j17 false))) (j26 (rdD tab_6 p0_3)))) none
set_option maxRecDepth 100000 in
theorem text_shown_bit_99_ok (K : Nat) (M0 : Nat → Prop) (w0 : World) (p0_0_0 : Int) (p0_0_1 : Int) (p0_0_2 : Int) (p0_0_3 : Int) (p0_0_4 : Int) (p0_0_5 : Int) (p0_1 : Int) (p0_2 : Int) (p0_3 : Int) (p0_4 : Int) (p0_5 : Int) (ho : ∀ b, M0 b → b < w0.heap.size) (hG6 : (gl 6 (tab_6.flatMap en_6)).ok w0 M0) (hG10 : (gl 10 (tab_10.flatMap en_10)).ok w0 M0) (hG11 : (gl 11 (tab_11.flatMap en_11)).ok w0 M0) (hG12 : (gl 12 (tab_12.flatMap en_12)).ok w0 M0) {r : ByteArray} (h : text_shown_bit_99.f K p0_0_0 p0_0_1 p0_0_2 p0_0_3 p0_0_4 p0_0_5 p0_1 p0_2 p0_3 p0_4 p0_5 = some r) :
  Calls Tryz.prog 99 #[.agg #[.int .i64 p0_0_0, .int .u8 p0_0_1, .int .u8 p0_0_2, .int .u16 p0_0_3, .int .i64 p0_0_4, .int .i64 p0_0_5, .int .i64 p0_1, .int .i64 p0_2, .int .i64 p0_3, .int .i64 p0_4, .int .i64 p0_5]] w0 (text_shown_bit_99.post M0 w0 r) := by
 unfold text_shown_bit_99.f at h
 have h0 : Holds M0 w0 w0 [] := Holds.start ho
 have h0g6 := h0.add (gl 6 (tab_6.flatMap en_6)) rfl ⟨hG6.1, fun hm => hG6.2.1 (hm.elim id (fun hm => absurd hm (by simp [mines, sl, gl, cel]))), hG6.2.2⟩
 have h0g10 := h0g6.add (gl 10 (tab_10.flatMap en_10)) rfl ⟨hG10.1, fun hm => hG10.2.1 (hm.elim id (fun hm => absurd hm (by simp [mines, sl, gl, cel]))), hG10.2.2⟩
 have h0g11 := h0g10.add (gl 11 (tab_11.flatMap en_11)) rfl ⟨hG11.1, fun hm => hG11.2.1 (hm.elim id (fun hm => absurd hm (by simp [mines, sl, gl, cel]))), hG11.2.2⟩
 have h0g12 := h0g11.add (gl 12 (tab_12.flatMap en_12)) rfl ⟨hG12.1, fun hm => hG12.2.1 (hm.elim id (fun hm => absurd hm (by simp [mines, sl, gl, cel]))), hG12.2.2⟩
 have h0 : Holds M0 w0 w0 [gl 6 (tab_6.flatMap en_6), gl 10 (tab_10.flatMap en_10), gl 11 (tab_11.flatMap en_11), gl 12 (tab_12.flatMap en_12)] := h0g12
 refine calls_of F99 rfl [.agg #[.int .i64 p0_0_0, .int .u8 p0_0_1, .int .u8 p0_0_2, .int .u16 p0_0_3, .int .i64 p0_0_4, .int .i64 p0_0_5, .int .i64 p0_1, .int .i64 p0_2, .int .i64 p0_3, .int .i64 p0_4, .int .i64 p0_5]] (by kernel_rfl) ?_
 refine RunsI.g 1 [.c 1, .c 2] ?_
 refine RunsI.r ?_
 refine RegI.o (OpE.box 1 126 [.int .i64 p0_0_0, .int .u8 p0_0_1, .int .u8 p0_0_2, .int .u16 p0_0_3, .int .i64 p0_0_4, .int .i64 p0_0_5, .int .i64 p0_1, .int .i64 p0_2, .int .i64 p0_3, .int .i64 p0_4, .int .i64 p0_5] h0 (by kernel_rfl) (by kernel_rfl) ?_)
 intro w1 b2 h3 hb4 hn5
 refine RegI.p 1 [(1, .pointer (some ⟨b2, 0, none⟩))] ?_
 refine RegI.d ?_
 refine RunsI.g 1 [.c 3, .c 4] ?_
 refine RunsI.r ?_
 refine RegI.p 1 [(1, .pointer (some ⟨b2, 0, none⟩)), (4, .pointer (some ⟨b2, 8, none⟩))] ?_
 refine RegI.o (OpE.loadBox 5 4 3 b2 8 (.int .i64 p0_3) h3 (by kernel_rfl) (by kernel_rfl) rfl (by kernel_rfl) ?_)
 obtain ⟨hc6, h⟩ := of_cond0 h
 refine RegI.o (OpE.run 6 (by kernel_rfl) (run_idxArr (T := 169) (b := 6) (o := 0) (ix := p0_3) (len := 8) (s := 1) (by kernel_rfl) (by kernel_rfl) hc6) ?_)
 refine RegI.o (OpE.loadTab 7 0 9 en_6 tab_6 0 1 p0_3 (.string (rdD tab_6 p0_3)) (o := 0 + (Int.toNat p0_3) * 1 + 0) h3 (by kernel_rfl) rfl (fun _ => rfl) (by kernel_rfl) (by omega) hc6 (fun _ => by kernel_rfl) ?_)
 refine RegI.p 1 [(1, .pointer (some ⟨b2, 0, none⟩)), (3, .string (rdD tab_6 p0_3))] ?_
 refine RegI.d ?_
 refine RunsI.g 2 [.c 6, .c 7, .c 16] ?_
 refine RunsI.r ?_
 refine RegI.p 2 [(1, .pointer (some ⟨b2, 0, none⟩)), (3, .string (rdD tab_6 p0_3)), (9, .pointer (some ⟨b2, 0, none⟩))] ?_
 refine RegI.o (OpE.loadBox 10 4 3 b2 0 (.int .i64 p0_0_0) h3 (by kernel_rfl) (by kernel_rfl) rfl (by kernel_rfl) ?_)
 refine RegI.p 1 [(1, .pointer (some ⟨b2, 0, none⟩)), (3, .string (rdD tab_6 p0_3)), (11, .bool (p0_0_0 != 1))] ?_
 refine RegI.d ?_
 obtain ⟨j26, hJ27, h⟩ := of_let h
 have hj28 : ∀ (t23 : ByteArray) (w25 : World), j26 t23 = some r → Holds M0 w0 w25 [box b2 126 [.int .i64 p0_0_0, .int .u8 p0_0_1, .int .u8 p0_0_2, .int .u16 p0_0_3, .int .i64 p0_0_4, .int .i64 p0_0_5, .int .i64 p0_1, .int .i64 p0_2, .int .i64 p0_3, .int .i64 p0_4, .int .i64 p0_5], gl 6 (tab_6.flatMap en_6), gl 10 (tab_10.flatMap en_10), gl 11 (tab_11.flatMap en_11), gl 12 (tab_12.flatMap en_12)] → RunsI F99 [.c 16] [(1, .pointer (some ⟨b2, 0, none⟩)), (3, .string t23)] w25 (text_shown_bit_99.post M0 w0 r) := by
  intro t23 w25 h h24
  rw [hJ27] at h
  clear hJ27
  dsimp only at h
  refine RunsI.g 2 [.c 18, .c 19, .c 24] ?_
  refine RunsI.r ?_
  refine RegI.p 1 [(1, .pointer (some ⟨b2, 0, none⟩)), (3, .string t23), (34, .pointer (some ⟨b2, 6, none⟩))] ?_
  refine RegI.o (OpE.loadBox 35 0 3 b2 6 (.int .i64 p0_1) h24 (by kernel_rfl) (by kernel_rfl) rfl (by kernel_rfl) ?_)
  refine RegI.p 1 [(1, .pointer (some ⟨b2, 0, none⟩)), (3, .string t23), (36, .bool (p0_1 == 0))] ?_
  refine RegI.d ?_
  rcases of_cond h with ⟨hc29, h⟩ | ⟨hc29, h⟩
  ·skip
   refine RunsI.f 36 true hc29 ?_
   refine RunsI.b true 20 ?_
   refine RunsI.g 1 [.c 21, .c 22, .c 24] ?_
   refine RunsI.r ?_
   refine RegI.p 1 [(3, .string t23), (37, .pointer (some ⟨b2, 7, none⟩))] ?_
   refine RegI.o (OpE.loadBox 38 0 3 b2 7 (.int .i64 p0_2) h24 (by kernel_rfl) (by kernel_rfl) rfl (by kernel_rfl) ?_)
   obtain ⟨hc30, h⟩ := of_cond0 h
   refine RegI.o (OpE.run 39 (by kernel_rfl) (run_idxArr (T := 169) (b := 10) (o := 0) (ix := p0_2) (len := 8) (s := 1) (by kernel_rfl) (by kernel_rfl) hc30) ?_)
   refine RegI.o (OpE.loadTab 40 2 9 en_10 tab_10 0 1 p0_2 (.string (rdD tab_10 p0_2)) (o := 0 + (Int.toNat p0_2) * 1 + 0) h24 (by kernel_rfl) rfl (fun _ => rfl) (by kernel_rfl) (by omega) hc30 (fun _ => by kernel_rfl) ?_)
   refine RegI.p 1 [(40, .string (rdD tab_10 p0_2)), (41, .string t23)] ?_
   obtain ⟨hc31, h⟩ := of_cond0 h
   refine RegI.o (OpE.run 42 (by kernel_rfl) (run_cat (a := (rdD tab_10 p0_2)) (b := t23) (by kernel_rfl) hc31) ?_)
   refine RegI.p 1 [(2, .string ((rdD tab_10 p0_2) ++ t23))] ?_
   refine RegI.d ?_
   refine RunsI.t (.string ((rdD tab_10 p0_2) ++ t23)) ?_
   obtain rfl := Option.some.inj h
   exact ⟨rfl, h24.below⟩
  ·skip
   refine RunsI.f 36 false hc29 ?_
   refine RunsI.b false 23 ?_
   refine RunsI.g 1 [.c 24] ?_
   refine RunsI.g 1 [.c 25, .c 26] ?_
   refine RunsI.any 12 (by kernel_rfl) (by kernel_rfl) (by kernel_rfl) (Kp ([] : List Nat) (World.drew w25)) ?_
   have h33 := h24.drew
   generalize World.drew w25 = w32 at h33 ⊢
   have hS34 := Kp.refl ([] : List Nat) w32
   refine AnyE.pure 0 43 (.pointer (some ⟨b2, 6, none⟩)) (by kernel_rfl) hS34 (fun _ => by kernel_rfl) ?_
   refine AnyE.loadBox 1 44 0 3 b2 6 (.int .i64 p0_1) [] h33 rfl (by kernel_rfl) hS34 rfl rfl (by kernel_rfl) (by kernel_rfl) ?_
   obtain ⟨hc36, h⟩ := of_cond0 h
   refine AnyE.run 2 45 (.pointer (some ⟨11, 0 + (Int.toNat p0_1) * 1, none⟩)) (by kernel_rfl) hS34 (fun _ hk => run_idxArr (T := 170) (b := 11) (o := 0) (ix := p0_1) (len := 4) (s := 1) (by kernel_rfl) (by kernel_rfl) hc36) ?_
   refine AnyE.loadTab 3 46 3 9 en_11 tab_11 0 1 p0_1 (.string (rdD tab_11 p0_1)) [] (o := 0 + (Int.toNat p0_1) * 1 + 0) h33 rfl (by kernel_rfl) hS34 rfl rfl (fun _ => rfl) (by kernel_rfl) (by omega) hc36 (fun _ => by kernel_rfl) ?_
   refine AnyE.pure 4 47 (.pointer (some ⟨b2, 7, none⟩)) (by kernel_rfl) hS34 (fun _ => by kernel_rfl) ?_
   refine AnyE.loadBox 5 48 0 3 b2 7 (.int .i64 p0_2) [] h33 rfl (by kernel_rfl) hS34 rfl rfl (by kernel_rfl) (by kernel_rfl) ?_
   obtain ⟨t38, hg37, h⟩ := of_bind h
   refine AnyE.call 6 49 (.string t38) 153 #[.int .i64 p0_2] (by kernel_rfl) hS34 (fun _ => by kernel_rfl) (fun w hk => strconv_Itoa_153_ok K (fun _ => False) w p0_2 (fun _ hf => hf.elim) ⟨(h33.atI [] rfl hk 4 rfl rfl).1, fun hf => hf.elim, (h33.atI [] rfl hk 4 rfl rfl).2.2⟩ hg37) ?_
   obtain ⟨hc39, h⟩ := of_cond0 h
   refine AnyE.run 7 50 (.string ((rdD tab_11 p0_1) ++ t38)) (by kernel_rfl) hS34 (fun _ hk => run_cat (a := (rdD tab_11 p0_1)) (b := t38) (by kernel_rfl) hc39) ?_
   obtain ⟨hc40, h⟩ := of_cond0 h
   refine AnyE.run 8 51 (.string (((rdD tab_11 p0_1) ++ t38) ++ (⟨#[44]⟩ : ByteArray))) (by kernel_rfl) hS34 (fun _ hk => run_cat (a := ((rdD tab_11 p0_1) ++ t38)) (b := (⟨#[44]⟩ : ByteArray)) (by kernel_rfl) hc40) ?_
   refine AnyE.pure 9 52 (.string t23) (by kernel_rfl) hS34 (fun _ => by kernel_rfl) ?_
   obtain ⟨hc41, h⟩ := of_cond0 h
   refine AnyE.run 10 53 (.string ((((rdD tab_11 p0_1) ++ t38) ++ (⟨#[44]⟩ : ByteArray)) ++ t23)) (by kernel_rfl) hS34 (fun _ hk => run_cat (a := (((rdD tab_11 p0_1) ++ t38) ++ (⟨#[44]⟩ : ByteArray))) (b := t23) (by kernel_rfl) hc41) ?_
   refine AnyE.pure 11 2 (.string ((((rdD tab_11 p0_1) ++ t38) ++ (⟨#[44]⟩ : ByteArray)) ++ t23)) (by kernel_rfl) hS34 (fun _ => by kernel_rfl) ?_
   refine AnyE.done (by kernel_rfl) (fun w42 hu43 => ?_)
   have h44 := h33.call hu43
   refine RunsI.l [2] [(2, .string ((((rdD tab_11 p0_1) ++ t38) ++ (⟨#[44]⟩ : ByteArray)) ++ t23))] ?_
   refine RunsI.t (.string ((((rdD tab_11 p0_1) ++ t38) ++ (⟨#[44]⟩ : ByteArray)) ++ t23)) ?_
   obtain rfl := Option.some.inj h
   exact ⟨rfl, h44.below⟩
 clear hJ27
 rcases of_cond h with ⟨hc7, h⟩ | ⟨hc7, h⟩
 ·skip
  refine RunsI.f 11 true hc7 ?_
  refine RunsI.b true 8 ?_
  refine RunsI.g 1 [.c 9, .c 10, .c 16] ?_
  refine RunsI.r ?_
  refine RegI.p 2 [(1, .pointer (some ⟨b2, 0, none⟩)), (13, .pointer (some ⟨b2, 0, none⟩))] ?_
  refine RegI.o (OpE.loadBox 14 4 3 b2 0 (.int .i64 p0_0_0) h3 (by kernel_rfl) (by kernel_rfl) rfl (by kernel_rfl) ?_)
  refine RegI.p 2 [(1, .pointer (some ⟨b2, 0, none⟩)), (14, .int .i64 p0_0_0), (16, .pointer (some ⟨b2, 2, none⟩))] ?_
  refine RegI.o (OpE.loadBox 17 4 5 b2 2 (.int .u8 p0_0_2) h3 (by kernel_rfl) (by kernel_rfl) rfl (by kernel_rfl) ?_)
  obtain ⟨t12, hg11, h⟩ := of_bind h
  refine RegI.o (OpE.call 18 (by kernel_rfl) 152 #[.int .i64 p0_0_0, .int .u8 p0_0_2] (by kernel_rfl) ((text_Index_152_ok K _ w1  p0_0_0 p0_0_2 h3.old' (h3.get 3 rfl) hg11).mono ?_))
  rintro _ w8 ⟨rfl, hb9⟩
  refine ⟨_, rfl, ?_⟩
  have h10 := h3.call hb9
  refine RegI.p 1 [(1, .pointer (some ⟨b2, 0, none⟩)), (3, .string t12)] ?_
  refine RegI.d ?_
  refine RunsI.g 1 [.c 11, .c 12, .c 16] ?_
  refine RunsI.r ?_
  refine RegI.p 1 [(1, .pointer (some ⟨b2, 0, none⟩)), (3, .string t12), (19, .pointer (some ⟨b2, 6, none⟩))] ?_
  refine RegI.o (OpE.loadBox 20 4 3 b2 6 (.int .i64 p0_1) h10 (by kernel_rfl) (by kernel_rfl) rfl (by kernel_rfl) ?_)
  refine RegI.p 2 [(1, .pointer (some ⟨b2, 0, none⟩)), (3, .string t12), (22, .bool (p0_1 != 1))] ?_
  obtain ⟨j17, hJ18, h⟩ := of_let h
  have hj19 : ∀ (t14 : Bool) (w16 : World), j17 t14 = some r → Holds M0 w0 w16 [box b2 126 [.int .i64 p0_0_0, .int .u8 p0_0_1, .int .u8 p0_0_2, .int .u16 p0_0_3, .int .i64 p0_0_4, .int .i64 p0_0_5, .int .i64 p0_1, .int .i64 p0_2, .int .i64 p0_3, .int .i64 p0_4, .int .i64 p0_5], gl 6 (tab_6.flatMap en_6), gl 10 (tab_10.flatMap en_10), gl 11 (tab_11.flatMap en_11), gl 12 (tab_12.flatMap en_12)] → RegI F99 11 [.c 12, .c 16] 8 [(1, .pointer (some ⟨b2, 0, none⟩)), (3, .string t12), (26, .bool t14)] w16 (text_shown_bit_99.post M0 w0 r) := by
   intro t14 w16 h h15
   rw [hJ18] at h
   clear hJ18
   dsimp only at h
   refine RegI.d ?_
   rcases of_cond h with ⟨hc20, h⟩ | ⟨hc20, h⟩
   ·skip
    refine RunsI.f 26 true hc20 ?_
    refine RunsI.b true 13 ?_
    refine RunsI.r ?_
    refine RegI.p 2 [(1, .pointer (some ⟨b2, 0, none⟩)), (27, .string t12), (28, .pointer (some ⟨b2, 8, none⟩))] ?_
    refine RegI.o (OpE.loadBox 29 0 3 b2 8 (.int .i64 p0_3) h15 (by kernel_rfl) (by kernel_rfl) rfl (by kernel_rfl) ?_)
    refine RegI.o (OpE.run 30 (by kernel_rfl) (run_idxArr (T := 169) (b := 6) (o := 0) (ix := p0_3) (len := 8) (s := 1) (by kernel_rfl) (by kernel_rfl) hc6) ?_)
    refine RegI.o (OpE.loadTab 31 1 9 en_6 tab_6 0 1 p0_3 (.string (rdD tab_6 p0_3)) (o := 0 + (Int.toNat p0_3) * 1 + 0) h15 (by kernel_rfl) rfl (fun _ => rfl) (by kernel_rfl) (by omega) hc6 (fun _ => by kernel_rfl) ?_)
    obtain ⟨hc21, h⟩ := of_cond0 h
    refine RegI.o (OpE.run 32 (by kernel_rfl) (run_cat (a := (⟨#[44]⟩ : ByteArray)) (b := (rdD tab_6 p0_3)) (by kernel_rfl) hc21) ?_)
    obtain ⟨hc22, h⟩ := of_cond0 h
    refine RegI.o (OpE.run 33 (by kernel_rfl) (run_cat (a := t12) (b := ((⟨#[44]⟩ : ByteArray) ++ (rdD tab_6 p0_3))) (by kernel_rfl) hc22) ?_)
    refine RegI.p 1 [(1, .pointer (some ⟨b2, 0, none⟩)), (3, .string (t12 ++ ((⟨#[44]⟩ : ByteArray) ++ (rdD tab_6 p0_3))))] ?_
    refine RegI.d ?_
    refine RunsI.l [1, 3] [(1, .pointer (some ⟨b2, 0, none⟩)), (3, .string (t12 ++ ((⟨#[44]⟩ : ByteArray) ++ (rdD tab_6 p0_3))))] ?_
    exact hj28 (t12 ++ ((⟨#[44]⟩ : ByteArray) ++ (rdD tab_6 p0_3))) w16 h (h15.pick [0, 1, 2, 3, 4] (by decide))
   ·skip
    refine RunsI.f 26 false hc20 ?_
    refine RunsI.b false 14 ?_
    refine RunsI.g 1 [.c 16] ?_
    refine RunsI.l [1, 3] [(1, .pointer (some ⟨b2, 0, none⟩)), (3, .string t12)] ?_
    exact hj28 t12 w16 h (h15.pick [0, 1, 2, 3, 4] (by decide))
  clear hJ18
  rcases of_cond h with ⟨hc13, h⟩ | ⟨hc13, h⟩
  ·skip
   refine RegI.f 22 true hc13 ?_
   refine RegI.p 1 [(1, .pointer (some ⟨b2, 0, none⟩)), (3, .string t12), (22, .bool true), (23, .pointer (some ⟨b2, 8, none⟩))] ?_
   refine RegI.o (OpE.loadBox 24 4 3 b2 8 (.int .i64 p0_3) h10 (by kernel_rfl) (by kernel_rfl) rfl (by kernel_rfl) ?_)
   refine RegI.p 2 [(1, .pointer (some ⟨b2, 0, none⟩)), (3, .string t12), (26, .bool (p0_3 != 6))] ?_
   refine RegI.l [1, 3, 26] [(1, .pointer (some ⟨b2, 0, none⟩)), (3, .string t12), (26, .bool (p0_3 != 6))] ?_
   exact hj19 (p0_3 != 6) w8 h (h10.pick [4, 0, 1, 2, 3] (by decide))
  ·skip
   refine RegI.f 22 false hc13 ?_
   refine RegI.p 4 [(1, .pointer (some ⟨b2, 0, none⟩)), (3, .string t12), (26, .bool false)] ?_
   refine RegI.l [1, 3, 26] [(1, .pointer (some ⟨b2, 0, none⟩)), (3, .string t12), (26, .bool false)] ?_
   exact hj19 false w8 h (h10.pick [4, 0, 1, 2, 3] (by decide))
 ·skip
  refine RunsI.f 11 false hc7 ?_
  refine RunsI.b false 15 ?_
  refine RunsI.g 1 [.c 16] ?_
  refine RunsI.l [1, 3] [(1, .pointer (some ⟨b2, 0, none⟩)), (3, .string (rdD tab_6 p0_3))] ?_
  exact hj28 (rdD tab_6 p0_3) w1 h (h3.pick [4, 0, 1, 2, 3] (by decide))
end

/-! ### charabanc/text.Show (function 63) -/
section
def text_Show_63.post (M0 : Nat → Prop) (w0 : World) (r : ByteArray) : Ending → World → Prop := fun e w => e = .returned (.string r) ∧ Below w0.heap.size w0 w
def text_Show_63.f (K : Nat) (p0_0 : Int) (p0_1 : Int) (p0_2 : Int) (p0_3 : Int) (p0_4 : Int) (p0_5 : Int) : Option ByteArray := (text_of_93.f K p0_0 p0_1 p0_2 p0_3 p0_4 p0_5).bind fun yt10 => Let (fun (t39 : Bool) => cond t39 (cond (yt10.2.2.2.2.2.2.1 == 0) ((text_shown_low_94.f K yt10.1 yt10.2.1 yt10.2.2.1 yt10.2.2.2.1 yt10.2.2.2.2.1 yt10.2.2.2.2.2.1 yt10.2.2.2.2.2.2.1 yt10.2.2.2.2.2.2.2.1 yt10.2.2.2.2.2.2.2.2.1 yt10.2.2.2.2.2.2.2.2.2.1 yt10.2.2.2.2.2.2.2.2.2.2).bind fun t51 => some t51) (cond (yt10.2.2.2.2.2.2.1 == 1) ((text_shown_moves_95.f K yt10.1 yt10.2.1 yt10.2.2.1 yt10.2.2.2.1 yt10.2.2.2.2.1 yt10.2.2.2.2.2.1 yt10.2.2.2.2.2.2.1 yt10.2.2.2.2.2.2.2.1 yt10.2.2.2.2.2.2.2.2.1 yt10.2.2.2.2.2.2.2.2.2.1 yt10.2.2.2.2.2.2.2.2.2.2).bind fun t57 => some t57) (cond (yt10.2.2.2.2.2.2.1 == 2) ((text_shown_sums_96.f K yt10.1 yt10.2.1 yt10.2.2.1 yt10.2.2.2.1 yt10.2.2.2.2.1 yt10.2.2.2.2.2.1 yt10.2.2.2.2.2.2.1 yt10.2.2.2.2.2.2.2.1 yt10.2.2.2.2.2.2.2.2.1 yt10.2.2.2.2.2.2.2.2.2.1 yt10.2.2.2.2.2.2.2.2.2.2).bind fun t63 => some t63) (cond (yt10.2.2.2.2.2.2.1 == 3) ((text_shown_high_97.f K yt10.1 yt10.2.1 yt10.2.2.1 yt10.2.2.2.1 yt10.2.2.2.2.1 yt10.2.2.2.2.2.1 yt10.2.2.2.2.2.2.1 yt10.2.2.2.2.2.2.2.1 yt10.2.2.2.2.2.2.2.2.1 yt10.2.2.2.2.2.2.2.2.2.1 yt10.2.2.2.2.2.2.2.2.2.2).bind fun t69 => some t69) none)))) (cond (p0_0 == 2) ((text_shown_far_98.f K yt10.1 yt10.2.1 yt10.2.2.1 yt10.2.2.2.1 yt10.2.2.2.2.1 yt10.2.2.2.2.2.1 yt10.2.2.2.2.2.2.1 yt10.2.2.2.2.2.2.2.1 yt10.2.2.2.2.2.2.2.2.1 yt10.2.2.2.2.2.2.2.2.2.1 yt10.2.2.2.2.2.2.2.2.2.2).bind fun t75 => some t75) (Let (fun (t78 : Bool) => cond t78 ((text_shown_bit_99.f K yt10.1 yt10.2.1 yt10.2.2.1 yt10.2.2.2.1 yt10.2.2.2.2.1 yt10.2.2.2.2.2.1 yt10.2.2.2.2.2.2.1 yt10.2.2.2.2.2.2.2.1 yt10.2.2.2.2.2.2.2.2.1 yt10.2.2.2.2.2.2.2.2.2.1 yt10.2.2.2.2.2.2.2.2.2.2).bind fun t89 => some t89) (some (⟨#[63]⟩ : ByteArray))) (fun j81 => cond (p0_0 == 1) (j81 true) (cond (p0_0 == 5) (j81 true) (j81 (p0_0 == 6))))))) (fun j42 => cond (p0_0 == 0) (j42 true) (cond (p0_0 == 3) (j42 true) (j42 (p0_0 == 4))))
set_option maxRecDepth 100000 in
theorem text_Show_63_ok (K : Nat) (M0 : Nat → Prop) (w0 : World) (p0_0 : Int) (p0_1 : Int) (p0_2 : Int) (p0_3 : Int) (p0_4 : Int) (p0_5 : Int) (ho : ∀ b, M0 b → b < w0.heap.size) (hG1 : (gl 1 (tab_1.flatMap en_1)).ok w0 M0) (hG2 : (gl 2 (tab_2.flatMap en_2)).ok w0 M0) (hG3 : (gl 3 (tab_3.flatMap en_3)).ok w0 M0) (hG4 : (gl 4 (tab_4.flatMap en_4)).ok w0 M0) (hG5 : (gl 5 (tab_5.flatMap en_5)).ok w0 M0) (hG6 : (gl 6 (tab_6.flatMap en_6)).ok w0 M0) (hG7 : (gl 7 (tab_7.flatMap en_7)).ok w0 M0) (hG8 : (gl 8 (tab_8.flatMap en_8)).ok w0 M0) (hG9 : (gl 9 (tab_9.flatMap en_9)).ok w0 M0) (hG10 : (gl 10 (tab_10.flatMap en_10)).ok w0 M0) (hG11 : (gl 11 (tab_11.flatMap en_11)).ok w0 M0) (hG12 : (gl 12 (tab_12.flatMap en_12)).ok w0 M0) (hG15 : (gl 15 (tab_15.flatMap en_15)).ok w0 M0) (hG16 : (gl 16 (tab_16.flatMap en_16)).ok w0 M0) {r : ByteArray} (h : text_Show_63.f K p0_0 p0_1 p0_2 p0_3 p0_4 p0_5 = some r) :
  Calls Tryz.prog 63 #[.agg #[.int .i64 p0_0, .int .u8 p0_1, .int .u8 p0_2, .int .u16 p0_3, .int .i64 p0_4, .int .i64 p0_5]] w0 (text_Show_63.post M0 w0 r) := by
 unfold text_Show_63.f at h
 have h0 : Holds M0 w0 w0 [] := Holds.start ho
 have h0g1 := h0.add (gl 1 (tab_1.flatMap en_1)) rfl ⟨hG1.1, fun hm => hG1.2.1 (hm.elim id (fun hm => absurd hm (by simp [mines, sl, gl, cel]))), hG1.2.2⟩
 have h0g2 := h0g1.add (gl 2 (tab_2.flatMap en_2)) rfl ⟨hG2.1, fun hm => hG2.2.1 (hm.elim id (fun hm => absurd hm (by simp [mines, sl, gl, cel]))), hG2.2.2⟩
 have h0g3 := h0g2.add (gl 3 (tab_3.flatMap en_3)) rfl ⟨hG3.1, fun hm => hG3.2.1 (hm.elim id (fun hm => absurd hm (by simp [mines, sl, gl, cel]))), hG3.2.2⟩
 have h0g4 := h0g3.add (gl 4 (tab_4.flatMap en_4)) rfl ⟨hG4.1, fun hm => hG4.2.1 (hm.elim id (fun hm => absurd hm (by simp [mines, sl, gl, cel]))), hG4.2.2⟩
 have h0g5 := h0g4.add (gl 5 (tab_5.flatMap en_5)) rfl ⟨hG5.1, fun hm => hG5.2.1 (hm.elim id (fun hm => absurd hm (by simp [mines, sl, gl, cel]))), hG5.2.2⟩
 have h0g6 := h0g5.add (gl 6 (tab_6.flatMap en_6)) rfl ⟨hG6.1, fun hm => hG6.2.1 (hm.elim id (fun hm => absurd hm (by simp [mines, sl, gl, cel]))), hG6.2.2⟩
 have h0g7 := h0g6.add (gl 7 (tab_7.flatMap en_7)) rfl ⟨hG7.1, fun hm => hG7.2.1 (hm.elim id (fun hm => absurd hm (by simp [mines, sl, gl, cel]))), hG7.2.2⟩
 have h0g8 := h0g7.add (gl 8 (tab_8.flatMap en_8)) rfl ⟨hG8.1, fun hm => hG8.2.1 (hm.elim id (fun hm => absurd hm (by simp [mines, sl, gl, cel]))), hG8.2.2⟩
 have h0g9 := h0g8.add (gl 9 (tab_9.flatMap en_9)) rfl ⟨hG9.1, fun hm => hG9.2.1 (hm.elim id (fun hm => absurd hm (by simp [mines, sl, gl, cel]))), hG9.2.2⟩
 have h0g10 := h0g9.add (gl 10 (tab_10.flatMap en_10)) rfl ⟨hG10.1, fun hm => hG10.2.1 (hm.elim id (fun hm => absurd hm (by simp [mines, sl, gl, cel]))), hG10.2.2⟩
 have h0g11 := h0g10.add (gl 11 (tab_11.flatMap en_11)) rfl ⟨hG11.1, fun hm => hG11.2.1 (hm.elim id (fun hm => absurd hm (by simp [mines, sl, gl, cel]))), hG11.2.2⟩
 have h0g12 := h0g11.add (gl 12 (tab_12.flatMap en_12)) rfl ⟨hG12.1, fun hm => hG12.2.1 (hm.elim id (fun hm => absurd hm (by simp [mines, sl, gl, cel]))), hG12.2.2⟩
 have h0g15 := h0g12.add (gl 15 (tab_15.flatMap en_15)) rfl ⟨hG15.1, fun hm => hG15.2.1 (hm.elim id (fun hm => absurd hm (by simp [mines, sl, gl, cel]))), hG15.2.2⟩
 have h0g16 := h0g15.add (gl 16 (tab_16.flatMap en_16)) rfl ⟨hG16.1, fun hm => hG16.2.1 (hm.elim id (fun hm => absurd hm (by simp [mines, sl, gl, cel]))), hG16.2.2⟩
 have h0 : Holds M0 w0 w0 [gl 1 (tab_1.flatMap en_1), gl 2 (tab_2.flatMap en_2), gl 3 (tab_3.flatMap en_3), gl 4 (tab_4.flatMap en_4), gl 5 (tab_5.flatMap en_5), gl 6 (tab_6.flatMap en_6), gl 7 (tab_7.flatMap en_7), gl 8 (tab_8.flatMap en_8), gl 9 (tab_9.flatMap en_9), gl 10 (tab_10.flatMap en_10), gl 11 (tab_11.flatMap en_11), gl 12 (tab_12.flatMap en_12), gl 15 (tab_15.flatMap en_15), gl 16 (tab_16.flatMap en_16)] := h0g16
 refine calls_of F63 rfl [.agg #[.int .i64 p0_0, .int .u8 p0_1, .int .u8 p0_2, .int .u16 p0_3, .int .i64 p0_4, .int .i64 p0_5]] (by kernel_rfl) ?_
 refine RunsI.g 1 [.c 1, .c 2] ?_
 refine RunsI.r ?_
 refine RegI.o (OpE.box 1 25 [.int .i64 p0_0, .int .u8 p0_1, .int .u8 p0_2, .int .u16 p0_3, .int .i64 p0_4, .int .i64 p0_5] h0 (by kernel_rfl) (by kernel_rfl) ?_)
 intro w1 b2 h3 hb4 hn5
 refine RegI.p 1 [(1, .pointer (some ⟨b2, 0, none⟩))] ?_
 refine RegI.d ?_
 refine RunsI.g 1 [.c 3, .c 4] ?_
 refine RunsI.r ?_
 refine RegI.o (OpE.loadBox 5 14 25 b2 0 (.agg #[.int .i64 p0_0, .int .u8 p0_1, .int .u8 p0_2, .int .u16 p0_3, .int .i64 p0_4, .int .i64 p0_5]) h3 (by kernel_rfl) (by kernel_rfl) rfl (by kernel_rfl) ?_)
 obtain ⟨⟨t10, t11, t12, t13, t14, t15, t16, t17, t18, t19, t20⟩, hg9, h⟩ := of_bind h
 dsimp only at h
 refine RegI.o (OpE.call 6 (by kernel_rfl) 93 #[.agg #[.int .i64 p0_0, .int .u8 p0_1, .int .u8 p0_2, .int .u16 p0_3, .int .i64 p0_4, .int .i64 p0_5]] (by kernel_rfl) ((text_of_93_ok K _ w1  p0_0 p0_1 p0_2 p0_3 p0_4 p0_5 h3.old' hg9).mono ?_))
 rintro _ w6 ⟨rfl, hb7⟩
 refine ⟨_, rfl, ?_⟩
 have h8 := h3.call hb7
 refine RegI.o (OpE.box 3 126 [.int .i64 0, .int .u8 0, .int .u8 0, .int .u16 0, .int .i64 0, .int .i64 0, .int .i64 0, .int .i64 0, .int .i64 0, .int .i64 0, .int .i64 0] h8 (by kernel_rfl) (by kernel_rfl) ?_)
 intro w21 b22 h23 hb24 hn25
 refine RegI.o (OpE.storeBox 15 126 b22 0 (.agg #[.int .i64 t10, .int .u8 t11, .int .u8 t12, .int .u16 t13, .int .i64 t14, .int .i64 t15, .int .i64 t16, .int .i64 t17, .int .i64 t18, .int .i64 t19, .int .i64 t20]) [.int .i64 t10, .int .u8 t11, .int .u8 t12, .int .u16 t13, .int .i64 t14, .int .i64 t15, .int .i64 t16, .int .i64 t17, .int .i64 t18, .int .i64 t19, .int .i64 t20] h23 (by kernel_rfl) (by kernel_rfl) rfl (by kernel_rfl) (by kernel_rfl) (by kernel_rfl) ?_)
 intro w26 h27 hk28
 refine RegI.d ?_
 refine RunsI.g 1 [.c 5, .c 6] ?_
 refine RunsI.r ?_
 refine RegI.o (OpE.loadBox 7 15 126 b22 0 (.agg #[.int .i64 t10, .int .u8 t11, .int .u8 t12, .int .u16 t13, .int .i64 t14, .int .i64 t15, .int .i64 t16, .int .i64 t17, .int .i64 t18, .int .i64 t19, .int .i64 t20]) h27 (by kernel_rfl) (by kernel_rfl) rfl (by kernel_rfl) ?_)
 refine RegI.p 1 [(1, .pointer (some ⟨b2, 0, none⟩)), (3, .pointer (some ⟨b22, 0, none⟩)), (8, .func (.func 94) #[.agg #[.int .i64 t10, .int .u8 t11, .int .u8 t12, .int .u16 t13, .int .i64 t14, .int .i64 t15, .int .i64 t16, .int .i64 t17, .int .i64 t18, .int .i64 t19, .int .i64 t20]] #[])] ?_
 refine RegI.o (OpE.loadBox 9 15 126 b22 0 (.agg #[.int .i64 t10, .int .u8 t11, .int .u8 t12, .int .u16 t13, .int .i64 t14, .int .i64 t15, .int .i64 t16, .int .i64 t17, .int .i64 t18, .int .i64 t19, .int .i64 t20]) h27 (by kernel_rfl) (by kernel_rfl) rfl (by kernel_rfl) ?_)
 refine RegI.p 1 [(1, .pointer (some ⟨b2, 0, none⟩)), (3, .pointer (some ⟨b22, 0, none⟩)), (8, .func (.func 94) #[.agg #[.int .i64 t10, .int .u8 t11, .int .u8 t12, .int .u16 t13, .int .i64 t14, .int .i64 t15, .int .i64 t16, .int .i64 t17, .int .i64 t18, .int .i64 t19, .int .i64 t20]] #[]), (10, .func (.func 95) #[.agg #[.int .i64 t10, .int .u8 t11, .int .u8 t12, .int .u16 t13, .int .i64 t14, .int .i64 t15, .int .i64 t16, .int .i64 t17, .int .i64 t18, .int .i64 t19, .int .i64 t20]] #[])] ?_
 refine RegI.o (OpE.loadBox 11 15 126 b22 0 (.agg #[.int .i64 t10, .int .u8 t11, .int .u8 t12, .int .u16 t13, .int .i64 t14, .int .i64 t15, .int .i64 t16, .int .i64 t17, .int .i64 t18, .int .i64 t19, .int .i64 t20]) h27 (by kernel_rfl) (by kernel_rfl) rfl (by kernel_rfl) ?_)
 refine RegI.p 1 [(1, .pointer (some ⟨b2, 0, none⟩)), (3, .pointer (some ⟨b22, 0, none⟩)), (8, .func (.func 94) #[.agg #[.int .i64 t10, .int .u8 t11, .int .u8 t12, .int .u16 t13, .int .i64 t14, .int .i64 t15, .int .i64 t16, .int .i64 t17, .int .i64 t18, .int .i64 t19, .int .i64 t20]] #[]), (10, .func (.func 95) #[.agg #[.int .i64 t10, .int .u8 t11, .int .u8 t12, .int .u16 t13, .int .i64 t14, .int .i64 t15, .int .i64 t16, .int .i64 t17, .int .i64 t18, .int .i64 t19, .int .i64 t20]] #[]), (12, .func (.func 96) #[.agg #[.int .i64 t10, .int .u8 t11, .int .u8 t12, .int .u16 t13, .int .i64 t14, .int .i64 t15, .int .i64 t16, .int .i64 t17, .int .i64 t18, .int .i64 t19, .int .i64 t20]] #[])] ?_
 refine RegI.o (OpE.loadBox 13 15 126 b22 0 (.agg #[.int .i64 t10, .int .u8 t11, .int .u8 t12, .int .u16 t13, .int .i64 t14, .int .i64 t15, .int .i64 t16, .int .i64 t17, .int .i64 t18, .int .i64 t19, .int .i64 t20]) h27 (by kernel_rfl) (by kernel_rfl) rfl (by kernel_rfl) ?_)
 refine RegI.p 2 [(1, .pointer (some ⟨b2, 0, none⟩)), (3, .pointer (some ⟨b22, 0, none⟩)), (15, .agg #[.func (.func 94) #[.agg #[.int .i64 t10, .int .u8 t11, .int .u8 t12, .int .u16 t13, .int .i64 t14, .int .i64 t15, .int .i64 t16, .int .i64 t17, .int .i64 t18, .int .i64 t19, .int .i64 t20]] #[], .func (.func 95) #[.agg #[.int .i64 t10, .int .u8 t11, .int .u8 t12, .int .u16 t13, .int .i64 t14, .int .i64 t15, .int .i64 t16, .int .i64 t17, .int .i64 t18, .int .i64 t19, .int .i64 t20]] #[], .func (.func 96) #[.agg #[.int .i64 t10, .int .u8 t11, .int .u8 t12, .int .u16 t13, .int .i64 t14, .int .i64 t15, .int .i64 t16, .int .i64 t17, .int .i64 t18, .int .i64 t19, .int .i64 t20]] #[], .func (.func 97) #[.agg #[.int .i64 t10, .int .u8 t11, .int .u8 t12, .int .u16 t13, .int .i64 t14, .int .i64 t15, .int .i64 t16, .int .i64 t17, .int .i64 t18, .int .i64 t19, .int .i64 t20]] #[]])] ?_
 refine RegI.o (OpE.box 4 128 [.nilFunc, .nilFunc, .nilFunc, .nilFunc] h27 (by kernel_rfl) (by kernel_rfl) ?_)
 intro w29 b30 h31 hb32 hn33
 refine RegI.o (OpE.storeBox 16 128 b30 0 (.agg #[.func (.func 94) #[.agg #[.int .i64 t10, .int .u8 t11, .int .u8 t12, .int .u16 t13, .int .i64 t14, .int .i64 t15, .int .i64 t16, .int .i64 t17, .int .i64 t18, .int .i64 t19, .int .i64 t20]] #[], .func (.func 95) #[.agg #[.int .i64 t10, .int .u8 t11, .int .u8 t12, .int .u16 t13, .int .i64 t14, .int .i64 t15, .int .i64 t16, .int .i64 t17, .int .i64 t18, .int .i64 t19, .int .i64 t20]] #[], .func (.func 96) #[.agg #[.int .i64 t10, .int .u8 t11, .int .u8 t12, .int .u16 t13, .int .i64 t14, .int .i64 t15, .int .i64 t16, .int .i64 t17, .int .i64 t18, .int .i64 t19, .int .i64 t20]] #[], .func (.func 97) #[.agg #[.int .i64 t10, .int .u8 t11, .int .u8 t12, .int .u16 t13, .int .i64 t14, .int .i64 t15, .int .i64 t16, .int .i64 t17, .int .i64 t18, .int .i64 t19, .int .i64 t20]] #[]]) [.func (.func 94) #[.agg #[.int .i64 t10, .int .u8 t11, .int .u8 t12, .int .u16 t13, .int .i64 t14, .int .i64 t15, .int .i64 t16, .int .i64 t17, .int .i64 t18, .int .i64 t19, .int .i64 t20]] #[], .func (.func 95) #[.agg #[.int .i64 t10, .int .u8 t11, .int .u8 t12, .int .u16 t13, .int .i64 t14, .int .i64 t15, .int .i64 t16, .int .i64 t17, .int .i64 t18, .int .i64 t19, .int .i64 t20]] #[], .func (.func 96) #[.agg #[.int .i64 t10, .int .u8 t11, .int .u8 t12, .int .u16 t13, .int .i64 t14, .int .i64 t15, .int .i64 t16, .int .i64 t17, .int .i64 t18, .int .i64 t19, .int .i64 t20]] #[], .func (.func 97) #[.agg #[.int .i64 t10, .int .u8 t11, .int .u8 t12, .int .u16 t13, .int .i64 t14, .int .i64 t15, .int .i64 t16, .int .i64 t17, .int .i64 t18, .int .i64 t19, .int .i64 t20]] #[]] h31 (by kernel_rfl) (by kernel_rfl) rfl (by kernel_rfl) (by kernel_rfl) (by kernel_rfl) ?_)
 intro w34 h35 hk36
 refine RegI.d ?_
 refine RunsI.g 2 [.c 8, .c 9, .c 45] ?_
 refine RunsI.r ?_
 refine RegI.p 1 [(3, .pointer (some ⟨b22, 0, none⟩)), (4, .pointer (some ⟨b30, 0, none⟩)), (16, .pointer (some ⟨b2, 0, none⟩))] ?_
 refine RegI.o (OpE.loadBox 17 14 3 b2 0 (.int .i64 p0_0) h35 (by kernel_rfl) (by kernel_rfl) rfl (by kernel_rfl) ?_)
 refine RegI.d ?_
 refine RunsI.g 3 [.c 12, .c 13, .c 20, .blk 0, .c 45] ?_
 refine RunsI.r ?_
 refine RegI.p 2 [(3, .pointer (some ⟨b22, 0, none⟩)), (4, .pointer (some ⟨b30, 0, none⟩)), (17, .int .i64 p0_0), (18, .bool (p0_0 == 0))] ?_
 refine RegI.d ?_
 obtain ⟨j42, hJ43, h⟩ := of_let h
 have hj44 : ∀ (t39 : Bool) (w41 : World), j42 t39 = some r → Holds M0 w0 w41 [box b22 126 [.int .i64 t10, .int .u8 t11, .int .u8 t12, .int .u16 t13, .int .i64 t14, .int .i64 t15, .int .i64 t16, .int .i64 t17, .int .i64 t18, .int .i64 t19, .int .i64 t20], box b30 128 [.func (.func 94) #[.agg #[.int .i64 t10, .int .u8 t11, .int .u8 t12, .int .u16 t13, .int .i64 t14, .int .i64 t15, .int .i64 t16, .int .i64 t17, .int .i64 t18, .int .i64 t19, .int .i64 t20]] #[], .func (.func 95) #[.agg #[.int .i64 t10, .int .u8 t11, .int .u8 t12, .int .u16 t13, .int .i64 t14, .int .i64 t15, .int .i64 t16, .int .i64 t17, .int .i64 t18, .int .i64 t19, .int .i64 t20]] #[], .func (.func 96) #[.agg #[.int .i64 t10, .int .u8 t11, .int .u8 t12, .int .u16 t13, .int .i64 t14, .int .i64 t15, .int .i64 t16, .int .i64 t17, .int .i64 t18, .int .i64 t19, .int .i64 t20]] #[], .func (.func 97) #[.agg #[.int .i64 t10, .int .u8 t11, .int .u8 t12, .int .u16 t13, .int .i64 t14, .int .i64 t15, .int .i64 t16, .int .i64 t17, .int .i64 t18, .int .i64 t19, .int .i64 t20]] #[]], gl 1 (tab_1.flatMap en_1), gl 2 (tab_2.flatMap en_2), gl 3 (tab_3.flatMap en_3), gl 4 (tab_4.flatMap en_4), gl 5 (tab_5.flatMap en_5), gl 6 (tab_6.flatMap en_6), gl 7 (tab_7.flatMap en_7), gl 8 (tab_8.flatMap en_8), gl 9 (tab_9.flatMap en_9), gl 10 (tab_10.flatMap en_10), gl 11 (tab_11.flatMap en_11), gl 12 (tab_12.flatMap en_12), gl 15 (tab_15.flatMap en_15), gl 16 (tab_16.flatMap en_16)] → RunsI F63 [.c 20, .blk 0, .c 45] [(3, .pointer (some ⟨b22, 0, none⟩)), (4, .pointer (some ⟨b30, 0, none⟩)), (17, .int .i64 p0_0), (18, .bool t39)] w41 (text_Show_63.post M0 w0 r) := by
  intro t39 w41 h h40
  rw [hJ43] at h
  clear hJ43
  dsimp only at h
  rcases of_cond h with ⟨hc45, h⟩ | ⟨hc45, h⟩
  ·skip
   refine RunsI.f 18 true hc45 ?_
   refine RunsI.b true 21 ?_
   refine RunsI.g 1 [.c 22, .c 23, .blk 0, .c 45] ?_
   refine RunsI.r ?_
   refine RegI.p 1 [(4, .pointer (some ⟨b30, 0, none⟩)), (22, .pointer (some ⟨b22, 6, none⟩))] ?_
   refine RegI.o (OpE.loadBox 23 0 3 b22 6 (.int .i64 t16) h40 (by kernel_rfl) (by kernel_rfl) rfl (by kernel_rfl) ?_)
   rcases of_cond h with ⟨hc46, h⟩ | ⟨hc46, h⟩
   ·skip
    refine RegI.o (OpE.run 24 (by kernel_rfl) (run_idxArrK (T := 128) (b := b30) (o := 0) (ix := t16) (k := 0) (len := 4) (s := 1) (by kernel_rfl) (by kernel_rfl) hc46 (by kernel_rfl)) ?_)
    refine RegI.o (OpE.loadBox 25 1 65 b30 0 (.func (.func 94) #[.agg #[.int .i64 t10, .int .u8 t11, .int .u8 t12, .int .u16 t13, .int .i64 t14, .int .i64 t15, .int .i64 t16, .int .i64 t17, .int .i64 t18, .int .i64 t19, .int .i64 t20]] #[]) h40 (by kernel_rfl) (by kernel_rfl) rfl (by kernel_rfl) ?_)
    obtain ⟨t51, hg50, h⟩ := of_bind h
    refine RegI.o (OpE.call 26 (by kernel_rfl) 94 #[.agg #[.int .i64 t10, .int .u8 t11, .int .u8 t12, .int .u16 t13, .int .i64 t14, .int .i64 t15, .int .i64 t16, .int .i64 t17, .int .i64 t18, .int .i64 t19, .int .i64 t20]] (by kernel_rfl) ((text_shown_low_94_ok K _ w41  t10 t11 t12 t13 t14 t15 t16 t17 t18 t19 t20 h40.old' (h40.get 2 rfl) (h40.get 3 rfl) (h40.get 7 rfl) (h40.get 8 rfl) (h40.get 13 rfl) (h40.get 14 rfl) (h40.get 15 rfl) hg50).mono ?_))
    rintro _ w47 ⟨rfl, hb48⟩
    refine ⟨_, rfl, ?_⟩
    have h49 := h40.call hb48
    refine RegI.p 1 [(2, .string t51)] ?_
    refine RegI.d ?_
    refine RunsI.t (.string t51) ?_
    obtain rfl := Option.some.inj h
    exact ⟨rfl, h49.below⟩
   ·skip
    rcases of_cond h with ⟨hc52, h⟩ | ⟨hc52, h⟩
    ·skip
     refine RegI.o (OpE.run 24 (by kernel_rfl) (run_idxArrK (T := 128) (b := b30) (o := 0) (ix := t16) (k := 1) (len := 4) (s := 1) (by kernel_rfl) (by kernel_rfl) hc52 (by kernel_rfl)) ?_)
     refine RegI.o (OpE.loadBox 25 1 65 b30 1 (.func (.func 95) #[.agg #[.int .i64 t10, .int .u8 t11, .int .u8 t12, .int .u16 t13, .int .i64 t14, .int .i64 t15, .int .i64 t16, .int .i64 t17, .int .i64 t18, .int .i64 t19, .int .i64 t20]] #[]) h40 (by kernel_rfl) (by kernel_rfl) rfl (by kernel_rfl) ?_)
     obtain ⟨t57, hg56, h⟩ := of_bind h
     refine RegI.o (OpE.call 26 (by kernel_rfl) 95 #[.agg #[.int .i64 t10, .int .u8 t11, .int .u8 t12, .int .u16 t13, .int .i64 t14, .int .i64 t15, .int .i64 t16, .int .i64 t17, .int .i64 t18, .int .i64 t19, .int .i64 t20]] (by kernel_rfl) ((text_shown_moves_95_ok K _ w41  t10 t11 t12 t13 t14 t15 t16 t17 t18 t19 t20 h40.old' (h40.get 7 rfl) (h40.get 13 rfl) hg56).mono ?_))
     rintro _ w53 ⟨rfl, hb54⟩
     refine ⟨_, rfl, ?_⟩
     have h55 := h40.call hb54
     refine RegI.p 1 [(2, .string t57)] ?_
     refine RegI.d ?_
     refine RunsI.t (.string t57) ?_
     obtain rfl := Option.some.inj h
     exact ⟨rfl, h55.below⟩
    ·skip
     rcases of_cond h with ⟨hc58, h⟩ | ⟨hc58, h⟩
     ·skip
      refine RegI.o (OpE.run 24 (by kernel_rfl) (run_idxArrK (T := 128) (b := b30) (o := 0) (ix := t16) (k := 2) (len := 4) (s := 1) (by kernel_rfl) (by kernel_rfl) hc58 (by kernel_rfl)) ?_)
      refine RegI.o (OpE.loadBox 25 1 65 b30 2 (.func (.func 96) #[.agg #[.int .i64 t10, .int .u8 t11, .int .u8 t12, .int .u16 t13, .int .i64 t14, .int .i64 t15, .int .i64 t16, .int .i64 t17, .int .i64 t18, .int .i64 t19, .int .i64 t20]] #[]) h40 (by kernel_rfl) (by kernel_rfl) rfl (by kernel_rfl) ?_)
      obtain ⟨t63, hg62, h⟩ := of_bind h
      refine RegI.o (OpE.call 26 (by kernel_rfl) 96 #[.agg #[.int .i64 t10, .int .u8 t11, .int .u8 t12, .int .u16 t13, .int .i64 t14, .int .i64 t15, .int .i64 t16, .int .i64 t17, .int .i64 t18, .int .i64 t19, .int .i64 t20]] (by kernel_rfl) ((text_shown_sums_96_ok K _ w41  t10 t11 t12 t13 t14 t15 t16 t17 t18 t19 t20 h40.old' (h40.get 4 rfl) (h40.get 7 rfl) (h40.get 13 rfl) hg62).mono ?_))
      rintro _ w59 ⟨rfl, hb60⟩
      refine ⟨_, rfl, ?_⟩
      have h61 := h40.call hb60
      refine RegI.p 1 [(2, .string t63)] ?_
      refine RegI.d ?_
      refine RunsI.t (.string t63) ?_
      obtain rfl := Option.some.inj h
      exact ⟨rfl, h61.below⟩
     ·skip
      obtain ⟨hc64, h⟩ := of_cond0 h
      refine RegI.o (OpE.run 24 (by kernel_rfl) (run_idxArrK (T := 128) (b := b30) (o := 0) (ix := t16) (k := 3) (len := 4) (s := 1) (by kernel_rfl) (by kernel_rfl) hc64 (by kernel_rfl)) ?_)
      refine RegI.o (OpE.loadBox 25 1 65 b30 3 (.func (.func 97) #[.agg #[.int .i64 t10, .int .u8 t11, .int .u8 t12, .int .u16 t13, .int .i64 t14, .int .i64 t15, .int .i64 t16, .int .i64 t17, .int .i64 t18, .int .i64 t19, .int .i64 t20]] #[]) h40 (by kernel_rfl) (by kernel_rfl) rfl (by kernel_rfl) ?_)
      obtain ⟨t69, hg68, h⟩ := of_bind h
      refine RegI.o (OpE.call 26 (by kernel_rfl) 97 #[.agg #[.int .i64 t10, .int .u8 t11, .int .u8 t12, .int .u16 t13, .int .i64 t14, .int .i64 t15, .int .i64 t16, .int .i64 t17, .int .i64 t18, .int .i64 t19, .int .i64 t20]] (by kernel_rfl) ((text_shown_high_97_ok K _ w41  t10 t11 t12 t13 t14 t15 t16 t17 t18 t19 t20 h40.old' (h40.get 2 rfl) (h40.get 4 rfl) (h40.get 8 rfl) (h40.get 13 rfl) (h40.get 14 rfl) (h40.get 15 rfl) hg68).mono ?_))
      rintro _ w65 ⟨rfl, hb66⟩
      refine ⟨_, rfl, ?_⟩
      have h67 := h40.call hb66
      refine RegI.p 1 [(2, .string t69)] ?_
      refine RegI.d ?_
      refine RunsI.t (.string t69) ?_
      obtain rfl := Option.some.inj h
      exact ⟨rfl, h67.below⟩
  ·skip
   refine RunsI.f 18 false hc45 ?_
   refine RunsI.b false 24 ?_
   refine RunsI.g 1 [.c 25, .c 26, .blk 0, .c 45] ?_
   refine RunsI.r ?_
   refine RegI.p 2 [(3, .pointer (some ⟨b22, 0, none⟩)), (17, .int .i64 p0_0), (27, .bool (p0_0 == 2))] ?_
   refine RegI.d ?_
   rcases of_cond h with ⟨hc70, h⟩ | ⟨hc70, h⟩
   ·skip
    refine RunsI.f 27 true hc70 ?_
    refine RunsI.b true 27 ?_
    refine RunsI.g 1 [.c 28, .c 29, .blk 0, .c 45] ?_
    refine RunsI.r ?_
    refine RegI.o (OpE.loadBox 29 0 126 b22 0 (.agg #[.int .i64 t10, .int .u8 t11, .int .u8 t12, .int .u16 t13, .int .i64 t14, .int .i64 t15, .int .i64 t16, .int .i64 t17, .int .i64 t18, .int .i64 t19, .int .i64 t20]) h40 (by kernel_rfl) (by kernel_rfl) rfl (by kernel_rfl) ?_)
    obtain ⟨t75, hg74, h⟩ := of_bind h
    refine RegI.o (OpE.call 30 (by kernel_rfl) 98 #[.agg #[.int .i64 t10, .int .u8 t11, .int .u8 t12, .int .u16 t13, .int .i64 t14, .int .i64 t15, .int .i64 t16, .int .i64 t17, .int .i64 t18, .int .i64 t19, .int .i64 t20]] (by kernel_rfl) ((text_shown_far_98_ok K _ w41  t10 t11 t12 t13 t14 t15 t16 t17 t18 t19 t20 h40.old' (h40.get 5 rfl) (h40.get 6 rfl) (h40.get 7 rfl) (h40.get 8 rfl) (h40.get 9 rfl) (h40.get 10 rfl) (h40.get 13 rfl) (h40.get 14 rfl) (h40.get 15 rfl) hg74).mono ?_))
    rintro _ w71 ⟨rfl, hb72⟩
    refine ⟨_, rfl, ?_⟩
    have h73 := h40.call hb72
    refine RegI.p 1 [(2, .string t75)] ?_
    refine RegI.d ?_
    refine RunsI.t (.string t75) ?_
    obtain rfl := Option.some.inj h
    exact ⟨rfl, h73.below⟩
   ·skip
    refine RunsI.f 27 false hc70 ?_
    refine RunsI.b false 30 ?_
    refine RunsI.g 2 [.c 32, .c 33, .c 40, .blk 0, .c 45] ?_
    refine RunsI.r ?_
    refine RegI.p 2 [(3, .pointer (some ⟨b22, 0, none⟩)), (17, .int .i64 p0_0), (31, .bool (p0_0 == 1))] ?_
    refine RegI.d ?_
    obtain ⟨j81, hJ82, h⟩ := of_let h
    have hj83 : ∀ (t78 : Bool) (w80 : World), j81 t78 = some r → Holds M0 w0 w80 [box b22 126 [.int .i64 t10, .int .u8 t11, .int .u8 t12, .int .u16 t13, .int .i64 t14, .int .i64 t15, .int .i64 t16, .int .i64 t17, .int .i64 t18, .int .i64 t19, .int .i64 t20], gl 1 (tab_1.flatMap en_1), gl 2 (tab_2.flatMap en_2), gl 3 (tab_3.flatMap en_3), gl 4 (tab_4.flatMap en_4), gl 5 (tab_5.flatMap en_5), gl 6 (tab_6.flatMap en_6), gl 7 (tab_7.flatMap en_7), gl 8 (tab_8.flatMap en_8), gl 9 (tab_9.flatMap en_9), gl 10 (tab_10.flatMap en_10), gl 11 (tab_11.flatMap en_11), gl 12 (tab_12.flatMap en_12), gl 15 (tab_15.flatMap en_15), gl 16 (tab_16.flatMap en_16)] → RunsI F63 [.c 40, .blk 0, .c 45] [(3, .pointer (some ⟨b22, 0, none⟩)), (31, .bool t78)] w80 (text_Show_63.post M0 w0 r) := by
     intro t78 w80 h h79
     rw [hJ82] at h
     clear hJ82
     dsimp only at h
     rcases of_cond h with ⟨hc84, h⟩ | ⟨hc84, h⟩
     ·skip
      refine RunsI.f 31 true hc84 ?_
      refine RunsI.b true 41 ?_
      refine RunsI.g 1 [.c 42, .c 43, .blk 0, .c 45] ?_
      refine RunsI.r ?_
      refine RegI.o (OpE.loadBox 35 0 126 b22 0 (.agg #[.int .i64 t10, .int .u8 t11, .int .u8 t12, .int .u16 t13, .int .i64 t14, .int .i64 t15, .int .i64 t16, .int .i64 t17, .int .i64 t18, .int .i64 t19, .int .i64 t20]) h79 (by kernel_rfl) (by kernel_rfl) rfl (by kernel_rfl) ?_)
      obtain ⟨t89, hg88, h⟩ := of_bind h
      refine RegI.o (OpE.call 36 (by kernel_rfl) 99 #[.agg #[.int .i64 t10, .int .u8 t11, .int .u8 t12, .int .u16 t13, .int .i64 t14, .int .i64 t15, .int .i64 t16, .int .i64 t17, .int .i64 t18, .int .i64 t19, .int .i64 t20]] (by kernel_rfl) ((text_shown_bit_99_ok K _ w80  t10 t11 t12 t13 t14 t15 t16 t17 t18 t19 t20 h79.old' (h79.get 6 rfl) (h79.get 10 rfl) (h79.get 11 rfl) (h79.get 12 rfl) hg88).mono ?_))
      rintro _ w85 ⟨rfl, hb86⟩
      refine ⟨_, rfl, ?_⟩
      have h87 := h79.call hb86
      refine RegI.p 1 [(2, .string t89)] ?_
      refine RegI.d ?_
      refine RunsI.t (.string t89) ?_
      obtain rfl := Option.some.inj h
      exact ⟨rfl, h87.below⟩
     ·skip
      refine RunsI.f 31 false hc84 ?_
      refine RunsI.b false 44 ?_
      refine RunsI.g 1 [.blk 0, .c 45] ?_
      refine RunsI.g 2 [.c 46, .c 47] ?_
      refine RunsI.r ?_
      refine RegI.p 1 [(2, .string (⟨#[63]⟩ : ByteArray))] ?_
      refine RegI.d ?_
      refine RunsI.t (.string (⟨#[63]⟩ : ByteArray)) ?_
      obtain rfl := Option.some.inj h
      exact ⟨rfl, h79.below⟩
    clear hJ82
    rcases of_cond h with ⟨hc76, h⟩ | ⟨hc76, h⟩
    ·skip
     refine RunsI.f 31 true hc76 ?_
     refine RunsI.b true 34 ?_
     refine RunsI.g 1 [.c 40, .blk 0, .c 45] ?_
     refine RunsI.l [3, 31] [(3, .pointer (some ⟨b22, 0, none⟩)), (31, .bool true)] ?_
     exact hj83 true w41 h (h40.pick [0, 2, 3, 4, 5, 6, 7, 8, 9, 10, 11, 12, 13, 14, 15] (by decide))
    ·skip
     refine RunsI.f 31 false hc76 ?_
     refine RunsI.b false 35 ?_
     refine RunsI.g 1 [.c 36, .c 37, .c 40, .blk 0, .c 45] ?_
     refine RunsI.r ?_
     refine RegI.p 2 [(3, .pointer (some ⟨b22, 0, none⟩)), (17, .int .i64 p0_0), (31, .bool (p0_0 == 5))] ?_
     refine RegI.d ?_
     rcases of_cond h with ⟨hc77, h⟩ | ⟨hc77, h⟩
     ·skip
      refine RunsI.f 31 true hc77 ?_
      refine RunsI.b true 38 ?_
      refine RunsI.g 1 [.c 40, .blk 0, .c 45] ?_
      refine RunsI.l [3, 31] [(3, .pointer (some ⟨b22, 0, none⟩)), (31, .bool true)] ?_
      exact hj83 true w41 h (h40.pick [0, 2, 3, 4, 5, 6, 7, 8, 9, 10, 11, 12, 13, 14, 15] (by decide))
     ·skip
      refine RunsI.f 31 false hc77 ?_
      refine RunsI.b false 39 ?_
      refine RunsI.r ?_
      refine RegI.p 2 [(3, .pointer (some ⟨b22, 0, none⟩)), (31, .bool (p0_0 == 6))] ?_
      refine RegI.d ?_
      refine RunsI.l [3, 31] [(3, .pointer (some ⟨b22, 0, none⟩)), (31, .bool (p0_0 == 6))] ?_
      exact hj83 (p0_0 == 6) w41 h (h40.pick [0, 2, 3, 4, 5, 6, 7, 8, 9, 10, 11, 12, 13, 14, 15] (by decide))
 clear hJ43
 rcases of_cond h with ⟨hc37, h⟩ | ⟨hc37, h⟩
 ·skip
  refine RunsI.f 18 true hc37 ?_
  refine RunsI.b true 14 ?_
  refine RunsI.g 1 [.c 20, .blk 0, .c 45] ?_
  refine RunsI.l [3, 4, 17, 18] [(3, .pointer (some ⟨b22, 0, none⟩)), (4, .pointer (some ⟨b30, 0, none⟩)), (17, .int .i64 p0_0), (18, .bool true)] ?_
  exact hj44 true w34 h (h35.pick [15, 16, 0, 1, 2, 3, 4, 5, 6, 7, 8, 9, 10, 11, 12, 13] (by decide))
 ·skip
  refine RunsI.f 18 false hc37 ?_
  refine RunsI.b false 15 ?_
  refine RunsI.g 1 [.c 16, .c 17, .c 20, .blk 0, .c 45] ?_
  refine RunsI.r ?_
  refine RegI.p 2 [(3, .pointer (some ⟨b22, 0, none⟩)), (4, .pointer (some ⟨b30, 0, none⟩)), (17, .int .i64 p0_0), (18, .bool (p0_0 == 3))] ?_
  refine RegI.d ?_
  rcases of_cond h with ⟨hc38, h⟩ | ⟨hc38, h⟩
  ·skip
   refine RunsI.f 18 true hc38 ?_
   refine RunsI.b true 18 ?_
   refine RunsI.g 1 [.c 20, .blk 0, .c 45] ?_
   refine RunsI.l [3, 4, 17, 18] [(3, .pointer (some ⟨b22, 0, none⟩)), (4, .pointer (some ⟨b30, 0, none⟩)), (17, .int .i64 p0_0), (18, .bool true)] ?_
   exact hj44 true w34 h (h35.pick [15, 16, 0, 1, 2, 3, 4, 5, 6, 7, 8, 9, 10, 11, 12, 13] (by decide))
  ·skip
   refine RunsI.f 18 false hc38 ?_
   refine RunsI.b false 19 ?_
   refine RunsI.r ?_
   refine RegI.p 2 [(3, .pointer (some ⟨b22, 0, none⟩)), (4, .pointer (some ⟨b30, 0, none⟩)), (17, .int .i64 p0_0), (18, .bool (p0_0 == 4))] ?_
   refine RegI.d ?_
   refine RunsI.l [3, 4, 17, 18] [(3, .pointer (some ⟨b22, 0, none⟩)), (4, .pointer (some ⟨b30, 0, none⟩)), (17, .int .i64 p0_0), (18, .bool (p0_0 == 4))] ?_
   exact hj44 (p0_0 == 4) w34 h (h35.pick [15, 16, 0, 1, 2, 3, 4, 5, 6, 7, 8, 9, 10, 11, 12, 13] (by decide))
end

/-! ### (charabanc/listing.one).text (function 38) -/
section
def listing_one_text_38.post (M0 : Nat → Prop) (w0 : World) (r : ByteArray) : Ending → World → Prop := fun e w => e = .returned (.string r) ∧ Below w0.heap.size w0 w
def listing_one_text_38.f (K : Nat) (p0_0 : Int) (p0_1 : List Int) (p0_2_0 : Int) (p0_2_1 : Int) (p0_2_2 : Int) (p0_2_3 : Int) (p0_2_4 : Int) (p0_2_5 : Int) (p0_3 : Bool) : Option ByteArray := cond (!p0_3) (some (⟨#[46, 46]⟩ : ByteArray)) ((text_Show_63.f K p0_2_0 p0_2_1 p0_2_2 p0_2_3 p0_2_4 p0_2_5).bind fun t11 => some t11)
set_option maxRecDepth 100000 in
theorem listing_one_text_38_ok (K : Nat) (M0 : Nat → Prop) (w0 : World) (pA0_1 : Option Addr) (pc0_1 : Nat) (p0_0 : Int) (p0_1 : List Int) (p0_2_0 : Int) (p0_2_1 : Int) (p0_2_2 : Int) (p0_2_3 : Int) (p0_2_4 : Int) (p0_2_5 : Int) (p0_3 : Bool) (ho : ∀ b, M0 b → b < w0.heap.size) (hs0_1 : Sl (Rp.int .u8) w0 M0 (.slice pA0_1 p0_1.length pc0_1) p0_1) (hG1 : (gl 1 (tab_1.flatMap en_1)).ok w0 M0) (hG2 : (gl 2 (tab_2.flatMap en_2)).ok w0 M0) (hG3 : (gl 3 (tab_3.flatMap en_3)).ok w0 M0) (hG4 : (gl 4 (tab_4.flatMap en_4)).ok w0 M0) (hG5 : (gl 5 (tab_5.flatMap en_5)).ok w0 M0) (hG6 : (gl 6 (tab_6.flatMap en_6)).ok w0 M0) (hG7 : (gl 7 (tab_7.flatMap en_7)).ok w0 M0) (hG8 : (gl 8 (tab_8.flatMap en_8)).ok w0 M0) (hG9 : (gl 9 (tab_9.flatMap en_9)).ok w0 M0) (hG10 : (gl 10 (tab_10.flatMap en_10)).ok w0 M0) (hG11 : (gl 11 (tab_11.flatMap en_11)).ok w0 M0) (hG12 : (gl 12 (tab_12.flatMap en_12)).ok w0 M0) (hG15 : (gl 15 (tab_15.flatMap en_15)).ok w0 M0) (hG16 : (gl 16 (tab_16.flatMap en_16)).ok w0 M0) {r : ByteArray} (h : listing_one_text_38.f K p0_0 p0_1 p0_2_0 p0_2_1 p0_2_2 p0_2_3 p0_2_4 p0_2_5 p0_3 = some r) :
  Calls Tryz.prog 38 #[.agg #[.int .u16 p0_0, .slice pA0_1 p0_1.length pc0_1, .int .i64 p0_2_0, .int .u8 p0_2_1, .int .u8 p0_2_2, .int .u16 p0_2_3, .int .i64 p0_2_4, .int .i64 p0_2_5, .bool p0_3]] w0 (listing_one_text_38.post M0 w0 r) := by
 unfold listing_one_text_38.f at h
 have h0 : Holds M0 w0 w0 [] := Holds.start ho
 have h00_1 := h0.addSl (Rp.int .u8) (.slice pA0_1 p0_1.length pc0_1) p0_1 (hs0_1.mono (fun _ _ hm => hm.elim id (fun hm => absurd hm (by simp [mines, sl]))))
 have h0g1 := h00_1.add (gl 1 (tab_1.flatMap en_1)) rfl ⟨hG1.1, fun hm => hG1.2.1 (hm.elim id (fun hm => absurd hm (by simp [mines, sl, gl, cel]))), hG1.2.2⟩
 have h0g2 := h0g1.add (gl 2 (tab_2.flatMap en_2)) rfl ⟨hG2.1, fun hm => hG2.2.1 (hm.elim id (fun hm => absurd hm (by simp [mines, sl, gl, cel]))), hG2.2.2⟩
 have h0g3 := h0g2.add (gl 3 (tab_3.flatMap en_3)) rfl ⟨hG3.1, fun hm => hG3.2.1 (hm.elim id (fun hm => absurd hm (by simp [mines, sl, gl, cel]))), hG3.2.2⟩
 have h0g4 := h0g3.add (gl 4 (tab_4.flatMap en_4)) rfl ⟨hG4.1, fun hm => hG4.2.1 (hm.elim id (fun hm => absurd hm (by simp [mines, sl, gl, cel]))), hG4.2.2⟩
 have h0g5 := h0g4.add (gl 5 (tab_5.flatMap en_5)) rfl ⟨hG5.1, fun hm => hG5.2.1 (hm.elim id (fun hm => absurd hm (by simp [mines, sl, gl, cel]))), hG5.2.2⟩
 have h0g6 := h0g5.add (gl 6 (tab_6.flatMap en_6)) rfl ⟨hG6.1, fun hm => hG6.2.1 (hm.elim id (fun hm => absurd hm (by simp [mines, sl, gl, cel]))), hG6.2.2⟩
 have h0g7 := h0g6.add (gl 7 (tab_7.flatMap en_7)) rfl ⟨hG7.1, fun hm => hG7.2.1 (hm.elim id (fun hm => absurd hm (by simp [mines, sl, gl, cel]))), hG7.2.2⟩
 have h0g8 := h0g7.add (gl 8 (tab_8.flatMap en_8)) rfl ⟨hG8.1, fun hm => hG8.2.1 (hm.elim id (fun hm => absurd hm (by simp [mines, sl, gl, cel]))), hG8.2.2⟩
 have h0g9 := h0g8.add (gl 9 (tab_9.flatMap en_9)) rfl ⟨hG9.1, fun hm => hG9.2.1 (hm.elim id (fun hm => absurd hm (by simp [mines, sl, gl, cel]))), hG9.2.2⟩
 have h0g10 := h0g9.add (gl 10 (tab_10.flatMap en_10)) rfl ⟨hG10.1, fun hm => hG10.2.1 (hm.elim id (fun hm => absurd hm (by simp [mines, sl, gl, cel]))), hG10.2.2⟩
 have h0g11 := h0g10.add (gl 11 (tab_11.flatMap en_11)) rfl ⟨hG11.1, fun hm => hG11.2.1 (hm.elim id (fun hm => absurd hm (by simp [mines, sl, gl, cel]))), hG11.2.2⟩
 have h0g12 := h0g11.add (gl 12 (tab_12.flatMap en_12)) rfl ⟨hG12.1, fun hm => hG12.2.1 (hm.elim id (fun hm => absurd hm (by simp [mines, sl, gl, cel]))), hG12.2.2⟩
 have h0g15 := h0g12.add (gl 15 (tab_15.flatMap en_15)) rfl ⟨hG15.1, fun hm => hG15.2.1 (hm.elim id (fun hm => absurd hm (by simp [mines, sl, gl, cel]))), hG15.2.2⟩
 have h0g16 := h0g15.add (gl 16 (tab_16.flatMap en_16)) rfl ⟨hG16.1, fun hm => hG16.2.1 (hm.elim id (fun hm => absurd hm (by simp [mines, sl, gl, cel]))), hG16.2.2⟩
 have h0 : Holds M0 w0 w0 [sl (Rp.int .u8) (.slice pA0_1 p0_1.length pc0_1) p0_1, gl 1 (tab_1.flatMap en_1), gl 2 (tab_2.flatMap en_2), gl 3 (tab_3.flatMap en_3), gl 4 (tab_4.flatMap en_4), gl 5 (tab_5.flatMap en_5), gl 6 (tab_6.flatMap en_6), gl 7 (tab_7.flatMap en_7), gl 8 (tab_8.flatMap en_8), gl 9 (tab_9.flatMap en_9), gl 10 (tab_10.flatMap en_10), gl 11 (tab_11.flatMap en_11), gl 12 (tab_12.flatMap en_12), gl 15 (tab_15.flatMap en_15), gl 16 (tab_16.flatMap en_16)] := h0g16
 refine calls_of F38 rfl [.agg #[.int .u16 p0_0, .slice pA0_1 p0_1.length pc0_1, .int .i64 p0_2_0, .int .u8 p0_2_1, .int .u8 p0_2_2, .int .u16 p0_2_3, .int .i64 p0_2_4, .int .i64 p0_2_5, .bool p0_3]] (by kernel_rfl) ?_
 refine RunsI.g 1 [.c 1, .c 2] ?_
 refine RunsI.r ?_
 refine RegI.o (OpE.box 1 53 [.int .u16 p0_0, .slice pA0_1 p0_1.length pc0_1, .int .i64 p0_2_0, .int .u8 p0_2_1, .int .u8 p0_2_2, .int .u16 p0_2_3, .int .i64 p0_2_4, .int .i64 p0_2_5, .bool p0_3] h0 (by kernel_rfl) (by kernel_rfl) ?_)
 intro w1 b2 h3 hb4 hn5
 refine RegI.p 1 [(1, .pointer (some ⟨b2, 0, none⟩))] ?_
 refine RegI.d ?_
 refine RunsI.g 2 [.c 4, .c 5, .c 10] ?_
 refine RunsI.r ?_
 refine RegI.p 1 [(1, .pointer (some ⟨b2, 0, none⟩)), (3, .pointer (some ⟨b2, 8, none⟩))] ?_
 refine RegI.o (OpE.loadBox 4 15 4 b2 8 (.bool p0_3) h3 (by kernel_rfl) (by kernel_rfl) rfl (by kernel_rfl) ?_)
 refine RegI.p 1 [(1, .pointer (some ⟨b2, 0, none⟩)), (5, .bool (!p0_3))] ?_
 refine RegI.d ?_
 rcases of_cond h with ⟨hc6, h⟩ | ⟨hc6, h⟩
 ·skip
  refine RunsI.f 5 true hc6 ?_
  refine RunsI.b true 6 ?_
  refine RunsI.g 1 [.c 7, .c 8, .c 10] ?_
  refine RunsI.r ?_
  refine RegI.p 1 [(2, .string (⟨#[46, 46]⟩ : ByteArray))] ?_
  refine RegI.d ?_
  refine RunsI.t (.string (⟨#[46, 46]⟩ : ByteArray)) ?_
  obtain rfl := Option.some.inj h
  exact ⟨rfl, h3.below⟩
 ·skip
  refine RunsI.f 5 false hc6 ?_
  refine RunsI.b false 9 ?_
  refine RunsI.g 1 [.c 10] ?_
  refine RunsI.g 1 [.c 11, .c 12] ?_
  refine RunsI.r ?_
  refine RegI.p 1 [(6, .pointer (some ⟨b2, 2, none⟩))] ?_
  refine RegI.o (OpE.loadBox 7 15 25 b2 2 (.agg #[.int .i64 p0_2_0, .int .u8 p0_2_1, .int .u8 p0_2_2, .int .u16 p0_2_3, .int .i64 p0_2_4, .int .i64 p0_2_5]) h3 (by kernel_rfl) (by kernel_rfl) rfl (by kernel_rfl) ?_)
  obtain ⟨t11, hg10, h⟩ := of_bind h
  refine RegI.o (OpE.call 8 (by kernel_rfl) 63 #[.agg #[.int .i64 p0_2_0, .int .u8 p0_2_1, .int .u8 p0_2_2, .int .u16 p0_2_3, .int .i64 p0_2_4, .int .i64 p0_2_5]] (by kernel_rfl) ((text_Show_63_ok K _ w1  p0_2_0 p0_2_1 p0_2_2 p0_2_3 p0_2_4 p0_2_5 h3.old' (h3.get 1 rfl) (h3.get 2 rfl) (h3.get 3 rfl) (h3.get 4 rfl) (h3.get 5 rfl) (h3.get 6 rfl) (h3.get 7 rfl) (h3.get 8 rfl) (h3.get 9 rfl) (h3.get 10 rfl) (h3.get 11 rfl) (h3.get 12 rfl) (h3.get 13 rfl) (h3.get 14 rfl) hg10).mono ?_))
  rintro _ w7 ⟨rfl, hb8⟩
  refine ⟨_, rfl, ?_⟩
  have h9 := h3.call hb8
  refine RegI.p 1 [(2, .string t11)] ?_
  refine RegI.d ?_
  refine RunsI.t (.string t11) ?_
  obtain rfl := Option.some.inj h
  exact ⟨rfl, h9.below⟩
end
end Go.Proofs.YtbcepghanbkncaaGreatDoor.LiF
