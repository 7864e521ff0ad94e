/- Functions of the program as plain Lean functions, each with the proof that the call comes to it; written by wip/eng.py. -/
import Derived.Test.YtbcepghanbkncaaGreatDoorEngShort
import Derived.Test.YtbcepghanbkncaaGreatDoorLiP3
set_option linter.unusedVariables false
set_option linter.unusedSimpArgs false
set_option maxHeartbeats 4000000
namespace Go.Proofs.YtbcepghanbkncaaGreatDoor.LiP
open Go.RowKit Go.Eng
set_option maxRecDepth 100000
abbrev sd0 : ByteArray := ⟨#[44]⟩
abbrev sd1 : ByteArray := ⟨#[108, 100, 32]⟩
abbrev sd2 : ByteArray := ⟨#[41]⟩
abbrev sd3 : ByteArray := ⟨#[105, 110, 99, 32]⟩
abbrev sd4 : ByteArray := ⟨#[100, 101, 99, 32]⟩
abbrev sd5 : ByteArray := ⟨#[106, 114, 32]⟩
abbrev sd6 : ByteArray := ⟨#[106, 112, 32]⟩
abbrev sd7 : ByteArray := ⟨#[106, 112, 32, 40]⟩
abbrev sd8 : ByteArray := ⟨#[111, 117, 116, 32, 40]⟩
abbrev sd9 : ByteArray := ⟨#[105, 110, 32, 97, 44, 40]⟩
abbrev sd10 : ByteArray := ⟨#[112, 114, 101, 102, 105, 120]⟩
abbrev sd11 : ByteArray := ⟨#[99, 97, 108, 108, 32]⟩
abbrev sd12 : ByteArray := ⟨#[100, 106, 110, 122, 32]⟩
abbrev sd13 : ByteArray := ⟨#[108, 100, 32, 115, 112, 44]⟩
abbrev sd14 : ByteArray := ⟨#[41, 44, 97]⟩
abbrev sd15 : ByteArray := ⟨#[101, 120, 32, 40, 115, 112, 41, 44]⟩
abbrev sd16 : ByteArray := ⟨#[105, 110, 32]⟩
abbrev sd17 : ByteArray := ⟨#[115, 98, 99, 32, 104, 108, 44]⟩
abbrev sd18 : ByteArray := ⟨#[97, 100, 99, 32, 104, 108, 44]⟩
abbrev sd19 : ByteArray := ⟨#[110, 111, 112]⟩
abbrev sd20 : ByteArray := ⟨#[101, 120, 32, 97, 102, 44, 97, 102, 39]⟩
abbrev sd21 : ByteArray := ⟨#[114, 101, 116]⟩
abbrev sd22 : ByteArray := ⟨#[101, 120, 120]⟩
abbrev sd23 : ByteArray := ⟨#[101, 120, 32, 100, 101, 44, 104, 108]⟩
abbrev sd24 : ByteArray := ⟨#[100, 105]⟩
abbrev sd25 : ByteArray := ⟨#[101, 105]⟩
abbrev sd26 : ByteArray := ⟨#[97, 100, 100, 32]⟩
abbrev sd27 : ByteArray := ⟨#[102]⟩
abbrev sd28 : ByteArray := ⟨#[44, 40, 99, 41]⟩
abbrev sd29 : ByteArray := ⟨#[111, 117, 116, 32, 40, 99, 41, 44]⟩
abbrev sd30 : ByteArray := ⟨#[44, 40]⟩
abbrev sd31 : ByteArray := ⟨#[108, 100, 32, 40]⟩
abbrev sd32 : ByteArray := ⟨#[48]⟩
abbrev sd33 : ByteArray := ⟨#[41, 44]⟩
abbrev sd34 : ByteArray := ⟨#[114, 101, 116, 32]⟩
abbrev sd35 : ByteArray := ⟨#[112, 111, 112, 32]⟩
abbrev sd36 : ByteArray := ⟨#[112, 117, 115, 104, 32]⟩
abbrev sd37 : ByteArray := ⟨#[114, 115, 116, 32]⟩
abbrev sd38 : ByteArray := ⟨#[111, 117, 116]⟩
/-! ### (charabanc/text.shown).low (function 94) -/
section
def text_shown_low_94.post (M0 : Nat → Prop) (w0 : World) (r : ByteArray) : Ending → World → Prop := fun e w => e = .returned (.string r) ∧ Below w0.heap.size w0 w
def text_shown_low_94.f (K : Nat) (p0_0_0 : Int) (p0_0_1 : Int) (p0_0_2 : Int) (p0_0_3 : Int) (p0_0_4 : Int) (p0_0_5 : Int) (p0_1 : Int) (p0_2 : Int) (p0_3 : Int) (p0_4 : Int) (p0_5 : Int) : Option ByteArray := cond (p0_3 == 0) (cond (decide (p0_2 > 3)) (cond (inR (IntKind.wrap .i64 (p0_2 - 4)) 8) (cond (mayCat (⟨#[106, 114, 32]⟩ : ByteArray).size (rdD tab_1 (IntKind.wrap .i64 (p0_2 - 4))).size) (cond (mayCat ((⟨#[106, 114, 32]⟩ : ByteArray) ++ (rdD tab_1 (IntKind.wrap .i64 (p0_2 - 4)))).size (⟨#[44]⟩ : ByteArray).size) ((text_shown_to_145.f K p0_0_0 p0_0_1 p0_0_2 p0_0_3 p0_0_4 p0_0_5 p0_1 p0_2 p0_3 p0_4 p0_5).bind fun t16 => cond (mayCat (((⟨#[106, 114, 32]⟩ : ByteArray) ++ (rdD tab_1 (IntKind.wrap .i64 (p0_2 - 4)))) ++ (⟨#[44]⟩ : ByteArray)).size t16.size) (some ((((⟨#[106, 114, 32]⟩ : ByteArray) ++ (rdD tab_1 (IntKind.wrap .i64 (p0_2 - 4)))) ++ (⟨#[44]⟩ : ByteArray)) ++ t16)) none) none) none) none) ((text_shown_to_145.f K p0_0_0 p0_0_1 p0_0_2 p0_0_3 p0_0_4 p0_0_5 p0_1 p0_2 p0_3 p0_4 p0_5).bind fun t26 => cond (mayCat (⟨#[100, 106, 110, 122, 32]⟩ : ByteArray).size t26.size) ((text_shown_to_145.f K p0_0_0 p0_0_1 p0_0_2 p0_0_3 p0_0_4 p0_0_5 p0_1 p0_2 p0_3 p0_4 p0_5).bind fun t29 => cond (mayCat (⟨#[106, 114, 32]⟩ : ByteArray).size t29.size) (cond (inR p0_2 4) (some (rdD ([(⟨#[110, 111, 112]⟩ : ByteArray), (⟨#[101, 120, 32, 97, 102, 44, 97, 102, 39]⟩ : ByteArray), ((⟨#[100, 106, 110, 122, 32]⟩ : ByteArray) ++ t26), ((⟨#[106, 114, 32]⟩ : ByteArray) ++ t29)] : List ByteArray) p0_2)) none) none) none)) (cond (p0_3 == 1) (cond (p0_5 == 1) ((text_shown_hl_146.f K p0_0_0 p0_0_1 p0_0_2 p0_0_3 p0_0_4 p0_0_5 p0_1 p0_2 p0_3 p0_4 p0_5).bind fun t42 => cond (mayCat (⟨#[97, 100, 100, 32]⟩ : ByteArray).size t42.size) (cond (mayCat ((⟨#[97, 100, 100, 32]⟩ : ByteArray) ++ t42).size (⟨#[44]⟩ : ByteArray).size) ((text_shown_pair_147.f K p0_0_0 p0_0_1 p0_0_2 p0_0_3 p0_0_4 p0_0_5 p0_1 p0_2 p0_3 p0_4 p0_5 p0_4 false).bind fun t46 => cond (mayCat (((⟨#[97, 100, 100, 32]⟩ : ByteArray) ++ t42) ++ (⟨#[44]⟩ : ByteArray)).size t46.size) (some ((((⟨#[97, 100, 100, 32]⟩ : ByteArray) ++ t42) ++ (⟨#[44]⟩ : ByteArray)) ++ t46)) none) none) none) ((text_shown_pair_147.f K p0_0_0 p0_0_1 p0_0_2 p0_0_3 p0_0_4 p0_0_5 p0_1 p0_2 p0_3 p0_4 p0_5 p0_4 false).bind fun t56 => cond (mayCat (⟨#[108, 100, 32]⟩ : ByteArray).size t56.size) (cond (mayCat ((⟨#[108, 100, 32]⟩ : ByteArray) ++ t56).size (⟨#[44]⟩ : ByteArray).size) ((text_shown_nn_148.f K p0_0_0 p0_0_1 p0_0_2 p0_0_3 p0_0_4 p0_0_5 p0_1 p0_2 p0_3 p0_4 p0_5).bind fun t60 => cond (mayCat (((⟨#[108, 100, 32]⟩ : ByteArray) ++ t56) ++ (⟨#[44]⟩ : ByteArray)).size t60.size) (some ((((⟨#[108, 100, 32]⟩ : ByteArray) ++ t56) ++ (⟨#[44]⟩ : ByteArray)) ++ t60)) none) none) none)) (cond (p0_3 == 2) ((text_shown_through_149.f K p0_0_0 p0_0_1 p0_0_2 p0_0_3 p0_0_4 p0_0_5 p0_1 p0_2 p0_3 p0_4 p0_5).bind fun t70 => some t70) (cond (p0_3 == 3) (cond (inR p0_5 2) ((text_shown_pair_147.f K p0_0_0 p0_0_1 p0_0_2 p0_0_3 p0_0_4 p0_0_5 p0_1 p0_2 p0_3 p0_4 p0_5 p0_4 false).bind fun t78 => cond (mayCat (rdD ([(⟨#[105, 110, 99, 32]⟩ : ByteArray), (⟨#[100, 101, 99, 32]⟩ : ByteArray)] : List ByteArray) p0_5).size t78.size) (some ((rdD ([(⟨#[105, 110, 99, 32]⟩ : ByteArray), (⟨#[100, 101, 99, 32]⟩ : ByteArray)] : List ByteArray) p0_5) ++ t78)) none) none) (Let (fun (t84 : Bool) => cond t84 (cond (inR (IntKind.wrap .i64 (p0_3 - 4)) 2) ((text_shown_reg_150.f K p0_0_0 p0_0_1 p0_0_2 p0_0_3 p0_0_4 p0_0_5 p0_1 p0_2 p0_3 p0_4 p0_5 p0_2).bind fun t97 => cond (mayCat (rdD ([(⟨#[105, 110, 99, 32]⟩ : ByteArray), (⟨#[100, 101, 99, 32]⟩ : ByteArray)] : List ByteArray) (IntKind.wrap .i64 (p0_3 - 4))).size t97.size) (some ((rdD ([(⟨#[105, 110, 99, 32]⟩ : ByteArray), (⟨#[100, 101, 99, 32]⟩ : ByteArray)] : List ByteArray) (IntKind.wrap .i64 (p0_3 - 4))) ++ t97)) none) none) (cond (p0_3 == 6) ((text_shown_reg_150.f K p0_0_0 p0_0_1 p0_0_2 p0_0_3 p0_0_4 p0_0_5 p0_1 p0_2 p0_3 p0_4 p0_5 p0_2).bind fun t108 => cond (mayCat (⟨#[108, 100, 32]⟩ : ByteArray).size t108.size) (cond (mayCat ((⟨#[108, 100, 32]⟩ : ByteArray) ++ t108).size (⟨#[44]⟩ : ByteArray).size) ((text_shown_n_151.f K p0_0_0 p0_0_1 p0_0_2 p0_0_3 p0_0_4 p0_0_5 p0_1 p0_2 p0_3 p0_4 p0_5).bind fun t112 => cond (mayCat (((⟨#[108, 100, 32]⟩ : ByteArray) ++ t108) ++ (⟨#[44]⟩ : ByteArray)).size t112.size) (some ((((⟨#[108, 100, 32]⟩ : ByteArray) ++ t108) ++ (⟨#[44]⟩ : ByteArray)) ++ t112)) none) none) none) (cond (inR p0_2 8) (some (rdD tab_2 p0_2)) none))) (fun j87 => cond (p0_3 == 4) (j87 true) (j87 (p0_3 == 5)))))))
theorem text_shown_low_94_ok (K : Nat) (M0 : Nat → Prop) (w0 : World) (a0 : Int) (a1 : Int) (a2 : Int) (a3 : Int) (a4 : Int) (a5 : Int) (a6 : Int) (a7 : Int) (a8 : Int) (a9 : Int) (d0 : Int) (ho : ∀ b, M0 b → b < w0.heap.size) (hG1 : (gl 1 (tab_1.flatMap en_1)).ok w0 M0) (hG2 : (gl 2 (tab_2.flatMap en_2)).ok w0 M0) (hG6 : (gl 6 (tab_6.flatMap en_6)).ok w0 M0) (hG7 : (gl 7 (tab_7.flatMap en_7)).ok w0 M0) (hG12 : (gl 12 (tab_12.flatMap en_12)).ok w0 M0) (hG15 : (gl 15 (tab_15.flatMap en_15)).ok w0 M0) (hG16 : (gl 16 (tab_16.flatMap en_16)).ok w0 M0) {r : ByteArray} (h : text_shown_low_94.f K a0 a1 a2 a3 a4 a5 a6 a7 a8 a9 d0 = some r) :
  Calls Tryz.prog 94 #[.agg #[iA a0, iB a1, iB a2, iC a3, iA a4, iA a5, iA a6, iA a7, iA a8, iA a9, iA d0]] w0 (text_shown_low_94.post M0 w0 r) := by
 unfold text_shown_low_94.f at h
 have h0 : Holds M0 w0 w0 [] := Holds.start ho
 have h0g1 := h0.add (gl 1 (tab_1.flatMap en_1)) rfl ⟨hG1.1, fun hm => hG1.2.1 (hm.elim id (fun hm => absurd hm (by simp [mines, sl, gl, cel]))), hG1.2.2⟩
 have h0g2 := h0g1.add (gl 2 (tab_2.flatMap en_2)) rfl ⟨hG2.1, fun hm => hG2.2.1 (hm.elim id (fun hm => absurd hm (by simp [mines, sl, gl, cel]))), hG2.2.2⟩
 have h0g6 := h0g2.add (gl 6 (tab_6.flatMap en_6)) rfl ⟨hG6.1, fun hm => hG6.2.1 (hm.elim id (fun hm => absurd hm (by simp [mines, sl, gl, cel]))), hG6.2.2⟩
 have h0g7 := h0g6.add (gl 7 (tab_7.flatMap en_7)) rfl ⟨hG7.1, fun hm => hG7.2.1 (hm.elim id (fun hm => absurd hm (by simp [mines, sl, gl, cel]))), hG7.2.2⟩
 have h0g12 := h0g7.add (gl 12 (tab_12.flatMap en_12)) rfl ⟨hG12.1, fun hm => hG12.2.1 (hm.elim id (fun hm => absurd hm (by simp [mines, sl, gl, cel]))), hG12.2.2⟩
 have h0g15 := h0g12.add (gl 15 (tab_15.flatMap en_15)) rfl ⟨hG15.1, fun hm => hG15.2.1 (hm.elim id (fun hm => absurd hm (by simp [mines, sl, gl, cel]))), hG15.2.2⟩
 have h0g16 := h0g15.add (gl 16 (tab_16.flatMap en_16)) rfl ⟨hG16.1, fun hm => hG16.2.1 (hm.elim id (fun hm => absurd hm (by simp [mines, sl, gl, cel]))), hG16.2.2⟩
 have h0 : Holds M0 w0 w0 [gl 1 (tab_1.flatMap en_1), gl 2 (tab_2.flatMap en_2), gl 6 (tab_6.flatMap en_6), gl 7 (tab_7.flatMap en_7), gl 12 (tab_12.flatMap en_12), gl 15 (tab_15.flatMap en_15), gl 16 (tab_16.flatMap en_16)] := h0g16
 refine calls_of F94 rfl [.agg #[iA a0, iB a1, iB a2, iC a3, iA a4, iA a5, iA a6, iA a7, iA a8, iA a9, iA d0]] (by kernel_rfl) ?_
 refine RunsI.g 1 [.c 1, .c 2] ?_
 refine RunsI.r ?_
 refine RegI.o (OpE.bx 1 126 [iA a0, iB a1, iB a2, iC a3, iA a4, iA a5, iA a6, iA a7, iA a8, iA a9, iA d0] h0 ?_)
 intro w1 b2 h3 hb4 hn5
 refine RegI.p 1 [(1, pt b2)] ?_
 refine RegI.q 2 4 [.c 5, .c 63] 1 [(1, pt b2), (3, pu b2 8)] ?_
 refine RegI.o (OpE.lB 4 7 3 b2 8 (iA a8) h3 rfl ?_)
 refine RegI.q 2 7 [.c 8, .blk 0, .c 63] 2 [(1, pt b2), (4, iA a8), (5, .bool (a8 == 0))] ?_
 refine RegI.d ?_
 rcases of_cond h with ⟨hc6, h⟩ | ⟨hc6, h⟩
 ·refine RunsI.fb 5 true hc6 9 ?_
  refine RunsI.q 2 11 [.c 12, .c 17, .blk 0, .c 63] 1 [(1, pt b2), (7, pu b2 7)] ?_
  refine RegI.o (OpE.lB 8 7 3 b2 7 (iA a7) h3 rfl ?_)
  refine RegI.pd 1 [(1, pt b2), (9, .bool (decide (a7 > 3)))] ?_
  rcases of_cond h with ⟨hc7, h⟩ | ⟨hc7, h⟩
  ·refine RunsI.fb 9 true hc7 13 ?_
   refine RunsI.g 1 [.c 14, .c 15, .c 17, .blk 0, .c 63] ?_
   refine RunsI.any 11 (by kernel_rfl) (by kernel_rfl) (by kernel_rfl) (Kp ([] : List Nat) (World.drew w1)) ?_
   have h9 := h3.drew
   generalize World.drew w1 = w8 at h9 ⊢
   have hS10 := Kp.refl ([] : List Nat) w8
   refine AnyE.u 0 10 (pu b2 7) hS10 ?_
   refine AnyE.lB 1 11 7 3 b2 7 (iA a7) [] h9 rfl hS10 rfl ?_
   refine AnyE.u 2 12 (iA (IntKind.wrap .i64 (a7 - 4))) hS10 ?_
   obtain ⟨hc12, h⟩ := of_cond0 h
   refine AnyE.run 3 13 (.pointer (some ⟨1, 0 + (Int.toNat (IntKind.wrap .i64 (a7 - 4))) * 1, none⟩)) (by kernel_rfl) hS10 (fun _ hk => run_idxArr (T := 169) (b := 1) (o := 0) (ix := (IntKind.wrap .i64 (a7 - 4))) (len := 8) (s := 1) (by kernel_rfl) (by kernel_rfl) hc12) ?_
   refine AnyE.loadTab 4 14 0 9 en_1 tab_1 0 1 (IntKind.wrap .i64 (a7 - 4)) (.string (rdD tab_1 (IntKind.wrap .i64 (a7 - 4)))) [] (o := 0 + (Int.toNat (IntKind.wrap .i64 (a7 - 4))) * 1 + 0) h9 rfl (by kernel_rfl) hS10 rfl rfl (fun _ => rfl) (by kernel_rfl) (by omega) hc12 (fun _ => by kernel_rfl) ?_
   obtain ⟨hc13, h⟩ := of_cond0 h
   refine AnyE.ct 5 15 sd5 (rdD tab_1 (IntKind.wrap .i64 (a7 - 4))) hS10 hc13 ?_
   obtain ⟨hc14, h⟩ := of_cond0 h
   refine AnyE.ct 6 16 (sd5 ++ (rdD tab_1 (IntKind.wrap .i64 (a7 - 4)))) sd0 hS10 hc14 ?_
   refine AnyE.lB 7 17 7 126 b2 0 (.agg #[iA a0, iB a1, iB a2, iC a3, iA a4, iA a5, iA a6, iA a7, iA a8, iA a9, iA d0]) [] h9 rfl hS10 rfl ?_
   obtain ⟨t16, hg15, h⟩ := of_bind h
   refine AnyE.cl 8 18 (.string t16) 145 #[.agg #[iA a0, iB a1, iB a2, iC a3, iA a4, iA a5, iA a6, iA a7, iA a8, iA a9, iA d0]] hS10 (fun w hk => text_shown_to_145_ok K (fun _ => False) w a0 a1 a2 a3 a4 a5 a6 a7 a8 a9 d0 nF (gF (h9.atI [] rfl hk 4 rfl rfl)) hg15) ?_
   obtain ⟨hc17, h⟩ := of_cond0 h
   refine AnyE.ct 9 19 ((sd5 ++ (rdD tab_1 (IntKind.wrap .i64 (a7 - 4)))) ++ sd0) t16 hS10 hc17 ?_
   refine AnyE.u 10 2 (.string (((sd5 ++ (rdD tab_1 (IntKind.wrap .i64 (a7 - 4)))) ++ sd0) ++ t16)) hS10 ?_
   refine AnyE.done (by kernel_rfl) (fun w18 hu19 => ?_)
   have h20 := h9.call hu19
   refine RunsI.l [2] [(2, .string (((sd5 ++ (rdD tab_1 (IntKind.wrap .i64 (a7 - 4)))) ++ sd0) ++ t16))] ?_
   refine RunsI.t (.string (((sd5 ++ (rdD tab_1 (IntKind.wrap .i64 (a7 - 4)))) ++ sd0) ++ t16)) ?_
   obtain rfl := Option.some.inj h
   exact ⟨rfl, h20.below⟩
  ·refine RunsI.fb 9 false hc7 16 ?_
   refine RunsI.g 1 [.c 17, .blk 0, .c 63] ?_
   refine RunsI.g 1 [.c 18, .c 19, .blk 0, .c 63] ?_
   refine RunsI.any 11 (by kernel_rfl) (by kernel_rfl) (by kernel_rfl) (Kp ([] : List Nat) (World.drew w1)) ?_
   have h22 := h3.drew
   generalize World.drew w1 = w21 at h22 ⊢
   have hS23 := Kp.refl ([] : List Nat) w21
   refine AnyE.lB 0 20 7 126 b2 0 (.agg #[iA a0, iB a1, iB a2, iC a3, iA a4, iA a5, iA a6, iA a7, iA a8, iA a9, iA d0]) [] h22 rfl hS23 rfl ?_
   obtain ⟨t26, hg25, h⟩ := of_bind h
   refine AnyE.cl 1 21 (.string t26) 145 #[.agg #[iA a0, iB a1, iB a2, iC a3, iA a4, iA a5, iA a6, iA a7, iA a8, iA a9, iA d0]] hS23 (fun w hk => text_shown_to_145_ok K (fun _ => False) w a0 a1 a2 a3 a4 a5 a6 a7 a8 a9 d0 nF (gF (h22.atI [] rfl hk 4 rfl rfl)) hg25) ?_
   obtain ⟨hc27, h⟩ := of_cond0 h
   refine AnyE.ct 2 22 sd12 t26 hS23 hc27 ?_
   refine AnyE.lB 3 23 7 126 b2 0 (.agg #[iA a0, iB a1, iB a2, iC a3, iA a4, iA a5, iA a6, iA a7, iA a8, iA a9, iA d0]) [] h22 rfl hS23 rfl ?_
   obtain ⟨t29, hg28, h⟩ := of_bind h
   refine AnyE.cl 4 24 (.string t29) 145 #[.agg #[iA a0, iB a1, iB a2, iC a3, iA a4, iA a5, iA a6, iA a7, iA a8, iA a9, iA d0]] hS23 (fun w hk => text_shown_to_145_ok K (fun _ => False) w a0 a1 a2 a3 a4 a5 a6 a7 a8 a9 d0 nF (gF (h22.atI [] rfl hk 4 rfl rfl)) hg28) ?_
   obtain ⟨hc30, h⟩ := of_cond0 h
   refine AnyE.ct 5 25 sd5 t29 hS23 hc30 ?_
   refine AnyE.u 6 26 (.agg (List.flatMap (fun (x : ByteArray) => ([.string x] : List Value)) ([sd19, sd20, (sd12 ++ t26), (sd5 ++ t29)] : List ByteArray)).toArray) hS23 ?_
   refine AnyE.u 7 27 (pu b2 7) hS23 ?_
   refine AnyE.lB 8 28 7 3 b2 7 (iA a7) [] h22 rfl hS23 rfl ?_
   obtain ⟨hc31, h⟩ := of_cond0 h
   refine AnyE.run 9 29 (.string (rdD ([sd19, sd20, (sd12 ++ t26), (sd5 ++ t29)] : List ByteArray) a7)) (by kernel_rfl) hS23 (fun _ hk => run_indexTab (T0 := 170) (en := (fun (x : ByteArray) => ([.string x] : List Value))) (tab := ([sd19, sd20, (sd12 ++ t26), (sd5 ++ t29)] : List ByteArray)) (len := 4) (sz := 1) (j := a7) (v := .string (rdD ([sd19, sd20, (sd12 ++ t26), (sd5 ++ t29)] : List ByteArray) a7)) (fun _ => rfl) (by kernel_rfl) (by kernel_rfl) rfl hc31 (fun _ => by kernel_rfl)) ?_
   refine AnyE.u 10 2 (.string (rdD ([sd19, sd20, (sd12 ++ t26), (sd5 ++ t29)] : List ByteArray) a7)) hS23 ?_
   refine AnyE.done (by kernel_rfl) (fun w32 hu33 => ?_)
   have h34 := h22.call hu33
   refine RunsI.l [2] [(2, .string (rdD ([sd19, sd20, (sd12 ++ t26), (sd5 ++ t29)] : List ByteArray) a7))] ?_
   refine RunsI.t (.string (rdD ([sd19, sd20, (sd12 ++ t26), (sd5 ++ t29)] : List ByteArray) a7)) ?_
   obtain rfl := Option.some.inj h
   exact ⟨rfl, h34.below⟩
 ·refine RunsI.fb 5 false hc6 20 ?_
  refine RunsI.qd 1 21 [.c 22, .blk 0, .c 63] 2 [(1, pt b2), (4, iA a8), (30, .bool (a8 == 1))] ?_
  rcases of_cond h with ⟨hc35, h⟩ | ⟨hc35, h⟩
  ·refine RunsI.fb 30 true hc35 23 ?_
   refine RunsI.q 2 25 [.c 26, .c 31, .blk 0, .c 63] 1 [(1, pt b2), (32, pu b2 10)] ?_
   refine RegI.o (OpE.lB 33 7 3 b2 10 (iA d0) h3 rfl ?_)
   refine RegI.pd 1 [(1, pt b2), (34, .bool (d0 == 1))] ?_
   rcases of_cond h with ⟨hc36, h⟩ | ⟨hc36, h⟩
   ·refine RunsI.fb 34 true hc36 27 ?_
    refine RunsI.g 1 [.c 28, .c 29, .c 31, .blk 0, .c 63] ?_
    refine RunsI.any 10 (by kernel_rfl) (by kernel_rfl) (by kernel_rfl) (Kp ([] : List Nat) (World.drew w1)) ?_
    have h38 := h3.drew
    generalize World.drew w1 = w37 at h38 ⊢
    have hS39 := Kp.refl ([] : List Nat) w37
    refine AnyE.lB 0 35 7 126 b2 0 (.agg #[iA a0, iB a1, iB a2, iC a3, iA a4, iA a5, iA a6, iA a7, iA a8, iA a9, iA d0]) [] h38 rfl hS39 rfl ?_
    obtain ⟨t42, hg41, h⟩ := of_bind h
    refine AnyE.cl 1 36 (.string t42) 146 #[.agg #[iA a0, iB a1, iB a2, iC a3, iA a4, iA a5, iA a6, iA a7, iA a8, iA a9, iA d0]] hS39 (fun w hk => text_shown_hl_146_ok K (fun _ => False) w a0 a1 a2 a3 a4 a5 a6 a7 a8 a9 d0 nF (gF (h38.atI [] rfl hk 3 rfl rfl)) hg41) ?_
    obtain ⟨hc43, h⟩ := of_cond0 h
    refine AnyE.ct 2 37 sd26 t42 hS39 hc43 ?_
    obtain ⟨hc44, h⟩ := of_cond0 h
    refine AnyE.ct 3 38 (sd26 ++ t42) sd0 hS39 hc44 ?_
    refine AnyE.lB 4 39 7 126 b2 0 (.agg #[iA a0, iB a1, iB a2, iC a3, iA a4, iA a5, iA a6, iA a7, iA a8, iA a9, iA d0]) [] h38 rfl hS39 rfl ?_
    refine AnyE.u 5 40 (pu b2 9) hS39 ?_
    refine AnyE.lB 6 41 7 3 b2 9 (iA a9) [] h38 rfl hS39 rfl ?_
    obtain ⟨t46, hg45, h⟩ := of_bind h
    refine AnyE.cl 7 42 (.string t46) 147 #[.agg #[iA a0, iB a1, iB a2, iC a3, iA a4, iA a5, iA a6, iA a7, iA a8, iA a9, iA d0], iA a9, .bool false] hS39 (fun w hk => text_shown_pair_147_ok K (fun _ => False) w a0 a1 a2 a3 a4 a5 a6 a7 a8 a9 d0 a9 false nF (gF (h38.atI [] rfl hk 3 rfl rfl)) hg45) ?_
    obtain ⟨hc47, h⟩ := of_cond0 h
    refine AnyE.ct 8 43 ((sd26 ++ t42) ++ sd0) t46 hS39 hc47 ?_
    refine AnyE.u 9 2 (.string (((sd26 ++ t42) ++ sd0) ++ t46)) hS39 ?_
    refine AnyE.done (by kernel_rfl) (fun w48 hu49 => ?_)
    have h50 := h38.call hu49
    refine RunsI.l [2] [(2, .string (((sd26 ++ t42) ++ sd0) ++ t46))] ?_
    refine RunsI.t (.string (((sd26 ++ t42) ++ sd0) ++ t46)) ?_
    obtain rfl := Option.some.inj h
    exact ⟨rfl, h50.below⟩
   ·refine RunsI.fb 34 false hc36 30 ?_
    refine RunsI.g 1 [.c 31, .blk 0, .c 63] ?_
    refine RunsI.g 1 [.c 32, .c 33, .blk 0, .c 63] ?_
    refine RunsI.any 10 (by kernel_rfl) (by kernel_rfl) (by kernel_rfl) (Kp ([] : List Nat) (World.drew w1)) ?_
    have h52 := h3.drew
    generalize World.drew w1 = w51 at h52 ⊢
    have hS53 := Kp.refl ([] : List Nat) w51
    refine AnyE.lB 0 44 7 126 b2 0 (.agg #[iA a0, iB a1, iB a2, iC a3, iA a4, iA a5, iA a6, iA a7, iA a8, iA a9, iA d0]) [] h52 rfl hS53 rfl ?_
    refine AnyE.u 1 45 (pu b2 9) hS53 ?_
    refine AnyE.lB 2 46 7 3 b2 9 (iA a9) [] h52 rfl hS53 rfl ?_
    obtain ⟨t56, hg55, h⟩ := of_bind h
    refine AnyE.cl 3 47 (.string t56) 147 #[.agg #[iA a0, iB a1, iB a2, iC a3, iA a4, iA a5, iA a6, iA a7, iA a8, iA a9, iA d0], iA a9, .bool false] hS53 (fun w hk => text_shown_pair_147_ok K (fun _ => False) w a0 a1 a2 a3 a4 a5 a6 a7 a8 a9 d0 a9 false nF (gF (h52.atI [] rfl hk 3 rfl rfl)) hg55) ?_
    obtain ⟨hc57, h⟩ := of_cond0 h
    refine AnyE.ct 4 48 sd1 t56 hS53 hc57 ?_
    obtain ⟨hc58, h⟩ := of_cond0 h
    refine AnyE.ct 5 49 (sd1 ++ t56) sd0 hS53 hc58 ?_
    refine AnyE.lB 6 50 7 126 b2 0 (.agg #[iA a0, iB a1, iB a2, iC a3, iA a4, iA a5, iA a6, iA a7, iA a8, iA a9, iA d0]) [] h52 rfl hS53 rfl ?_
    obtain ⟨t60, hg59, h⟩ := of_bind h
    refine AnyE.cl 7 51 (.string t60) 148 #[.agg #[iA a0, iB a1, iB a2, iC a3, iA a4, iA a5, iA a6, iA a7, iA a8, iA a9, iA d0]] hS53 (fun w hk => text_shown_nn_148_ok K (fun _ => False) w a0 a1 a2 a3 a4 a5 a6 a7 a8 a9 d0 nF (gF (h52.atI [] rfl hk 4 rfl rfl)) (gF (h52.atI [] rfl hk 5 rfl rfl)) (gF (h52.atI [] rfl hk 6 rfl rfl)) hg59) ?_
    obtain ⟨hc61, h⟩ := of_cond0 h
    refine AnyE.ct 8 52 ((sd1 ++ t56) ++ sd0) t60 hS53 hc61 ?_
    refine AnyE.u 9 2 (.string (((sd1 ++ t56) ++ sd0) ++ t60)) hS53 ?_
    refine AnyE.done (by kernel_rfl) (fun w62 hu63 => ?_)
    have h64 := h52.call hu63
    refine RunsI.l [2] [(2, .string (((sd1 ++ t56) ++ sd0) ++ t60))] ?_
    refine RunsI.t (.string (((sd1 ++ t56) ++ sd0) ++ t60)) ?_
    obtain rfl := Option.some.inj h
    exact ⟨rfl, h64.below⟩
  ·refine RunsI.fb 30 false hc35 34 ?_
   refine RunsI.qd 1 35 [.c 36, .blk 0, .c 63] 2 [(1, pt b2), (4, iA a8), (53, .bool (a8 == 2))] ?_
   rcases of_cond h with ⟨hc65, h⟩ | ⟨hc65, h⟩
   ·refine RunsI.fb 53 true hc65 37 ?_
    refine RunsI.g 1 [.c 38, .c 39, .blk 0, .c 63] ?_
    refine RunsI.r ?_
    refine RegI.o (OpE.lB 55 7 126 b2 0 (.agg #[iA a0, iB a1, iB a2, iC a3, iA a4, iA a5, iA a6, iA a7, iA a8, iA a9, iA d0]) h3 rfl ?_)
    obtain ⟨t70, hg69, h⟩ := of_bind h
    refine RegI.o (OpE.cl 56 149 #[.agg #[iA a0, iB a1, iB a2, iC a3, iA a4, iA a5, iA a6, iA a7, iA a8, iA a9, iA d0]] ((text_shown_through_149_ok K _ w1  a0 a1 a2 a3 a4 a5 a6 a7 a8 a9 d0 h3.old' (h3.get 3 rfl) (h3.get 4 rfl) (h3.get 5 rfl) (h3.get 6 rfl) hg69).mono ?_))
    rintro _ w66 ⟨rfl, hb67⟩
    refine ⟨_, rfl, ?_⟩
    have h68 := h3.call hb67
    refine RegI.pd 1 [(2, .string t70)] ?_
    refine RunsI.t (.string t70) ?_
    obtain rfl := Option.some.inj h
    exact ⟨rfl, h68.below⟩
   ·refine RunsI.fb 53 false hc65 40 ?_
    refine RunsI.qd 1 41 [.c 42, .blk 0, .c 63] 2 [(1, pt b2), (4, iA a8), (57, .bool (a8 == 3))] ?_
    rcases of_cond h with ⟨hc71, h⟩ | ⟨hc71, h⟩
    ·refine RunsI.fb 57 true hc71 43 ?_
     refine RunsI.g 1 [.c 44, .c 45, .blk 0, .c 63] ?_
     refine RunsI.any 10 (by kernel_rfl) (by kernel_rfl) (by kernel_rfl) (Kp ([] : List Nat) (World.drew w1)) ?_
     have h73 := h3.drew
     generalize World.drew w1 = w72 at h73 ⊢
     have hS74 := Kp.refl ([] : List Nat) w72
     refine AnyE.u 0 59 (.agg #[.string sd3, .string sd4]) hS74 ?_
     refine AnyE.u 1 60 (pu b2 10) hS74 ?_
     refine AnyE.lB 2 61 7 3 b2 10 (iA d0) [] h73 rfl hS74 rfl ?_
     obtain ⟨hc76, h⟩ := of_cond0 h
     refine AnyE.run 3 62 (.string (rdD ([sd3, sd4] : List ByteArray) d0)) (by kernel_rfl) hS74 (fun _ hk => run_indexTab (T0 := 172) (en := (fun (x : ByteArray) => ([.string x] : List Value))) (tab := ([sd3, sd4] : List ByteArray)) (len := 2) (sz := 1) (j := d0) (v := .string (rdD ([sd3, sd4] : List ByteArray) d0)) (fun _ => rfl) (by kernel_rfl) (by kernel_rfl) rfl hc76 (fun _ => by kernel_rfl)) ?_
     refine AnyE.lB 4 63 7 126 b2 0 (.agg #[iA a0, iB a1, iB a2, iC a3, iA a4, iA a5, iA a6, iA a7, iA a8, iA a9, iA d0]) [] h73 rfl hS74 rfl ?_
     refine AnyE.u 5 64 (pu b2 9) hS74 ?_
     refine AnyE.lB 6 65 7 3 b2 9 (iA a9) [] h73 rfl hS74 rfl ?_
     obtain ⟨t78, hg77, h⟩ := of_bind h
     refine AnyE.cl 7 66 (.string t78) 147 #[.agg #[iA a0, iB a1, iB a2, iC a3, iA a4, iA a5, iA a6, iA a7, iA a8, iA a9, iA d0], iA a9, .bool false] hS74 (fun w hk => text_shown_pair_147_ok K (fun _ => False) w a0 a1 a2 a3 a4 a5 a6 a7 a8 a9 d0 a9 false nF (gF (h73.atI [] rfl hk 3 rfl rfl)) hg77) ?_
     obtain ⟨hc79, h⟩ := of_cond0 h
     refine AnyE.ct 8 67 (rdD ([sd3, sd4] : List ByteArray) d0) t78 hS74 hc79 ?_
     refine AnyE.u 9 2 (.string ((rdD ([sd3, sd4] : List ByteArray) d0) ++ t78)) hS74 ?_
     refine AnyE.done (by kernel_rfl) (fun w80 hu81 => ?_)
     have h82 := h73.call hu81
     refine RunsI.l [2] [(2, .string ((rdD ([sd3, sd4] : List ByteArray) d0) ++ t78))] ?_
     refine RunsI.t (.string ((rdD ([sd3, sd4] : List ByteArray) d0) ++ t78)) ?_
     obtain rfl := Option.some.inj h
     exact ⟨rfl, h82.below⟩
    ·refine RunsI.fb 57 false hc71 46 ?_
     refine RunsI.qd 2 48 [.c 49, .c 52, .blk 0, .c 63] 2 [(1, pt b2), (4, iA a8), (68, .bool (a8 == 4))] ?_
     obtain ⟨j87, hJ88, h⟩ := of_let h
     have hj89 : ∀ (t84 : Bool) (w86 : World), j87 t84 = some r → Holds M0 w0 w86 [box b2 126 [iA a0, iB a1, iB a2, iC a3, iA a4, iA a5, iA a6, iA a7, iA a8, iA a9, iA d0], gl 1 (tab_1.flatMap en_1), gl 2 (tab_2.flatMap en_2), gl 6 (tab_6.flatMap en_6), gl 7 (tab_7.flatMap en_7), gl 12 (tab_12.flatMap en_12), gl 15 (tab_15.flatMap en_15), gl 16 (tab_16.flatMap en_16)] → RunsI F94 [.c 52, .blk 0, .c 63] [(1, pt b2), (4, iA a8), (68, .bool t84)] w86 (text_shown_low_94.post M0 w0 r) := by
      intro t84 w86 h h85
      rw [hJ88] at h
      clear hJ88
      dsimp only at h
      rcases of_cond h with ⟨hc90, h⟩ | ⟨hc90, h⟩
      ·refine RunsI.fb 68 true hc90 53 ?_
       refine RunsI.g 1 [.c 54, .c 55, .blk 0, .c 63] ?_
       refine RunsI.any 11 (by kernel_rfl) (by kernel_rfl) (by kernel_rfl) (Kp ([] : List Nat) (World.drew w86)) ?_
       have h92 := h85.drew
       generalize World.drew w86 = w91 at h92 ⊢
       have hS93 := Kp.refl ([] : List Nat) w91
       refine AnyE.u 0 71 (.agg #[.string sd3, .string sd4]) hS93 ?_
       refine AnyE.u 1 72 (pu b2 8) hS93 ?_
       refine AnyE.lB 2 73 0 3 b2 8 (iA a8) [] h92 rfl hS93 rfl ?_
       refine AnyE.u 3 74 (iA (IntKind.wrap .i64 (a8 - 4))) hS93 ?_
       obtain ⟨hc95, h⟩ := of_cond0 h
       refine AnyE.run 4 75 (.string (rdD ([sd3, sd4] : List ByteArray) (IntKind.wrap .i64 (a8 - 4)))) (by kernel_rfl) hS93 (fun _ hk => run_indexTab (T0 := 172) (en := (fun (x : ByteArray) => ([.string x] : List Value))) (tab := ([sd3, sd4] : List ByteArray)) (len := 2) (sz := 1) (j := (IntKind.wrap .i64 (a8 - 4))) (v := .string (rdD ([sd3, sd4] : List ByteArray) (IntKind.wrap .i64 (a8 - 4)))) (fun _ => rfl) (by kernel_rfl) (by kernel_rfl) rfl hc95 (fun _ => by kernel_rfl)) ?_
       refine AnyE.lB 5 76 0 126 b2 0 (.agg #[iA a0, iB a1, iB a2, iC a3, iA a4, iA a5, iA a6, iA a7, iA a8, iA a9, iA d0]) [] h92 rfl hS93 rfl ?_
       refine AnyE.u 6 77 (pu b2 7) hS93 ?_
       refine AnyE.lB 7 78 0 3 b2 7 (iA a7) [] h92 rfl hS93 rfl ?_
       obtain ⟨t97, hg96, h⟩ := of_bind h
       refine AnyE.cl 8 79 (.string t97) 150 #[.agg #[iA a0, iB a1, iB a2, iC a3, iA a4, iA a5, iA a6, iA a7, iA a8, iA a9, iA d0], iA a7] hS93 (fun w hk => text_shown_reg_150_ok K (fun _ => False) w a0 a1 a2 a3 a4 a5 a6 a7 a8 a9 d0 a7 nF (gF (h92.atI [] rfl hk 3 rfl rfl)) (gF (h92.atI [] rfl hk 5 rfl rfl)) hg96) ?_
       obtain ⟨hc98, h⟩ := of_cond0 h
       refine AnyE.ct 9 80 (rdD ([sd3, sd4] : List ByteArray) (IntKind.wrap .i64 (a8 - 4))) t97 hS93 hc98 ?_
       refine AnyE.u 10 2 (.string ((rdD ([sd3, sd4] : List ByteArray) (IntKind.wrap .i64 (a8 - 4))) ++ t97)) hS93 ?_
       refine AnyE.done (by kernel_rfl) (fun w99 hu100 => ?_)
       have h101 := h92.call hu100
       refine RunsI.l [2] [(2, .string ((rdD ([sd3, sd4] : List ByteArray) (IntKind.wrap .i64 (a8 - 4))) ++ t97))] ?_
       refine RunsI.t (.string ((rdD ([sd3, sd4] : List ByteArray) (IntKind.wrap .i64 (a8 - 4))) ++ t97)) ?_
       obtain rfl := Option.some.inj h
       exact ⟨rfl, h101.below⟩
      ·refine RunsI.fb 68 false hc90 56 ?_
       refine RunsI.qd 1 57 [.c 58, .blk 0, .c 63] 2 [(1, pt b2), (81, .bool (a8 == 6))] ?_
       rcases of_cond h with ⟨hc102, h⟩ | ⟨hc102, h⟩
       ·refine RunsI.fb 81 true hc102 59 ?_
        refine RunsI.g 1 [.c 60, .c 61, .blk 0, .c 63] ?_
        refine RunsI.any 10 (by kernel_rfl) (by kernel_rfl) (by kernel_rfl) (Kp ([] : List Nat) (World.drew w86)) ?_
        have h104 := h85.drew
        generalize World.drew w86 = w103 at h104 ⊢
        have hS105 := Kp.refl ([] : List Nat) w103
        refine AnyE.lB 0 83 0 126 b2 0 (.agg #[iA a0, iB a1, iB a2, iC a3, iA a4, iA a5, iA a6, iA a7, iA a8, iA a9, iA d0]) [] h104 rfl hS105 rfl ?_
        refine AnyE.u 1 84 (pu b2 7) hS105 ?_
        refine AnyE.lB 2 85 0 3 b2 7 (iA a7) [] h104 rfl hS105 rfl ?_
        obtain ⟨t108, hg107, h⟩ := of_bind h
        refine AnyE.cl 3 86 (.string t108) 150 #[.agg #[iA a0, iB a1, iB a2, iC a3, iA a4, iA a5, iA a6, iA a7, iA a8, iA a9, iA d0], iA a7] hS105 (fun w hk => text_shown_reg_150_ok K (fun _ => False) w a0 a1 a2 a3 a4 a5 a6 a7 a8 a9 d0 a7 nF (gF (h104.atI [] rfl hk 3 rfl rfl)) (gF (h104.atI [] rfl hk 5 rfl rfl)) hg107) ?_
        obtain ⟨hc109, h⟩ := of_cond0 h
        refine AnyE.ct 4 87 sd1 t108 hS105 hc109 ?_
        obtain ⟨hc110, h⟩ := of_cond0 h
        refine AnyE.ct 5 88 (sd1 ++ t108) sd0 hS105 hc110 ?_
        refine AnyE.lB 6 89 0 126 b2 0 (.agg #[iA a0, iB a1, iB a2, iC a3, iA a4, iA a5, iA a6, iA a7, iA a8, iA a9, iA d0]) [] h104 rfl hS105 rfl ?_
        obtain ⟨t112, hg111, h⟩ := of_bind h
        refine AnyE.cl 7 90 (.string t112) 151 #[.agg #[iA a0, iB a1, iB a2, iC a3, iA a4, iA a5, iA a6, iA a7, iA a8, iA a9, iA d0]] hS105 (fun w hk => text_shown_n_151_ok K (fun _ => False) w a0 a1 a2 a3 a4 a5 a6 a7 a8 a9 d0 nF (gF (h104.atI [] rfl hk 5 rfl rfl)) (gF (h104.atI [] rfl hk 6 rfl rfl)) (gF (h104.atI [] rfl hk 7 rfl rfl)) hg111) ?_
        obtain ⟨hc113, h⟩ := of_cond0 h
        refine AnyE.ct 8 91 ((sd1 ++ t108) ++ sd0) t112 hS105 hc113 ?_
        refine AnyE.u 9 2 (.string (((sd1 ++ t108) ++ sd0) ++ t112)) hS105 ?_
        refine AnyE.done (by kernel_rfl) (fun w114 hu115 => ?_)
        have h116 := h104.call hu115
        refine RunsI.l [2] [(2, .string (((sd1 ++ t108) ++ sd0) ++ t112))] ?_
        refine RunsI.t (.string (((sd1 ++ t108) ++ sd0) ++ t112)) ?_
        obtain rfl := Option.some.inj h
        exact ⟨rfl, h116.below⟩
       ·refine RunsI.fb 81 false hc102 62 ?_
        refine RunsI.g 1 [.blk 0, .c 63] ?_
        refine RunsI.q 2 64 [.c 65] 1 [(92, pu b2 7)] ?_
        refine RegI.o (OpE.lB 93 0 3 b2 7 (iA a7) h85 rfl ?_)
        obtain ⟨hc117, h⟩ := of_cond0 h
        refine RegI.o (OpE.run 94 (by kernel_rfl) (run_idxArr (T := 169) (b := 2) (o := 0) (ix := a7) (len := 8) (s := 1) (by kernel_rfl) (by kernel_rfl) hc117) ?_)
        refine RegI.o (OpE.loadTab 95 2 9 en_2 tab_2 0 1 a7 (.string (rdD tab_2 a7)) (o := 0 + (Int.toNat a7) * 1 + 0) h85 (by kernel_rfl) rfl (fun _ => rfl) (by kernel_rfl) (by omega) hc117 (fun _ => by kernel_rfl) ?_)
        refine RegI.pd 1 [(2, .string (rdD tab_2 a7))] ?_
        refine RunsI.t (.string (rdD tab_2 a7)) ?_
        obtain rfl := Option.some.inj h
        exact ⟨rfl, h85.below⟩
     clear hJ88
     rcases of_cond h with ⟨hc83, h⟩ | ⟨hc83, h⟩
     ·refine RunsI.fb 68 true hc83 50 ?_
      refine RunsI.g 1 [.c 52, .blk 0, .c 63] ?_
      refine RunsI.l [1, 4, 68] [(1, pt b2), (4, iA a8), (68, .bool true)] ?_
      exact hj89 true w1 h (h3.pick [7, 0, 1, 2, 3, 4, 5, 6] (by decide))
     ·refine RunsI.fb 68 false hc83 51 ?_
      refine RunsI.r ?_
      refine RegI.pd 2 [(1, pt b2), (4, iA a8), (68, .bool (a8 == 5))] ?_
      refine RunsI.l [1, 4, 68] [(1, pt b2), (4, iA a8), (68, .bool (a8 == 5))] ?_
      exact hj89 (a8 == 5) w1 h (h3.pick [7, 0, 1, 2, 3, 4, 5, 6] (by decide))
end

/-! ### (charabanc/text.shown).moves (function 95) -/
section
def text_shown_moves_95.post (M0 : Nat → Prop) (w0 : World) (r : ByteArray) : Ending → World → Prop := fun e w => e = .returned (.string r) ∧ Below w0.heap.size w0 w
def text_shown_moves_95.f (K : Nat) (p0_0_0 : Int) (p0_0_1 : Int) (p0_0_2 : Int) (p0_0_3 : Int) (p0_0_4 : Int) (p0_0_5 : Int) (p0_1 : Int) (p0_2 : Int) (p0_3 : Int) (p0_4 : Int) (p0_5 : Int) : Option ByteArray := Let (fun (t7 : Bool) => cond t7 (some (⟨#[104, 97, 108, 116]⟩ : ByteArray)) ((text_shown_reg_150.f K p0_0_0 p0_0_1 p0_0_2 p0_0_3 p0_0_4 p0_0_5 p0_1 p0_2 p0_3 p0_4 p0_5 p0_2).bind fun t19 => cond (mayCat (⟨#[108, 100, 32]⟩ : ByteArray).size t19.size) (cond (mayCat ((⟨#[108, 100, 32]⟩ : ByteArray) ++ t19).size (⟨#[44]⟩ : ByteArray).size) ((text_shown_reg_150.f K p0_0_0 p0_0_1 p0_0_2 p0_0_3 p0_0_4 p0_0_5 p0_1 p0_2 p0_3 p0_4 p0_5 p0_3).bind fun t23 => cond (mayCat (((⟨#[108, 100, 32]⟩ : ByteArray) ++ t19) ++ (⟨#[44]⟩ : ByteArray)).size t23.size) (some ((((⟨#[108, 100, 32]⟩ : ByteArray) ++ t19) ++ (⟨#[44]⟩ : ByteArray)) ++ t23)) none) none) none)) (fun j10 => cond (p0_2 == 6) (j10 (p0_3 == 6)) (j10 false))
theorem text_shown_moves_95_ok (K : Nat) (M0 : Nat → Prop) (w0 : World) (a0 : Int) (a1 : Int) (a2 : Int) (a3 : Int) (a4 : Int) (a5 : Int) (a6 : Int) (a7 : Int) (a8 : Int) (a9 : Int) (d0 : Int) (ho : ∀ b, M0 b → b < w0.heap.size) (hG6 : (gl 6 (tab_6.flatMap en_6)).ok w0 M0) (hG12 : (gl 12 (tab_12.flatMap en_12)).ok w0 M0) {r : ByteArray} (h : text_shown_moves_95.f K a0 a1 a2 a3 a4 a5 a6 a7 a8 a9 d0 = some r) :
  Calls Tryz.prog 95 #[.agg #[iA a0, iB a1, iB a2, iC a3, iA a4, iA a5, iA a6, iA a7, iA a8, iA a9, iA d0]] w0 (text_shown_moves_95.post M0 w0 r) := by
 unfold text_shown_moves_95.f at h
 have h0 : Holds M0 w0 w0 [] := Holds.start ho
 have h0g6 := h0.add (gl 6 (tab_6.flatMap en_6)) rfl ⟨hG6.1, fun hm => hG6.2.1 (hm.elim id (fun hm => absurd hm (by simp [mines, sl, gl, cel]))), hG6.2.2⟩
 have h0g12 := h0g6.add (gl 12 (tab_12.flatMap en_12)) rfl ⟨hG12.1, fun hm => hG12.2.1 (hm.elim id (fun hm => absurd hm (by simp [mines, sl, gl, cel]))), hG12.2.2⟩
 have h0 : Holds M0 w0 w0 [gl 6 (tab_6.flatMap en_6), gl 12 (tab_12.flatMap en_12)] := h0g12
 refine calls_of F95 rfl [.agg #[iA a0, iB a1, iB a2, iC a3, iA a4, iA a5, iA a6, iA a7, iA a8, iA a9, iA d0]] (by kernel_rfl) ?_
 refine RunsI.g 1 [.c 1, .c 2] ?_
 refine RunsI.r ?_
 refine RegI.o (OpE.bx 1 126 [iA a0, iB a1, iB a2, iC a3, iA a4, iA a5, iA a6, iA a7, iA a8, iA a9, iA d0] h0 ?_)
 intro w1 b2 h3 hb4 hn5
 refine RegI.p 1 [(1, pt b2)] ?_
 refine RegI.q 2 4 [.c 5, .c 10] 1 [(1, pt b2), (3, pu b2 7)] ?_
 refine RegI.o (OpE.lB 4 2 3 b2 7 (iA a7) h3 rfl ?_)
 refine RegI.p 2 [(1, pt b2), (6, .bool (a7 == 6))] ?_
 obtain ⟨j10, hJ11, h⟩ := of_let h
 have hj12 : ∀ (t7 : Bool) (w9 : World), j10 t7 = some r → Holds M0 w0 w9 [box b2 126 [iA a0, iB a1, iB a2, iC a3, iA a4, iA a5, iA a6, iA a7, iA a8, iA a9, iA d0], gl 6 (tab_6.flatMap en_6), gl 12 (tab_12.flatMap en_12)] → RegI F95 4 [.c 5, .c 10] 8 [(1, pt b2), (10, .bool t7)] w9 (text_shown_moves_95.post M0 w0 r) := by
  intro t7 w9 h h8
  rw [hJ11] at h
  clear hJ11
  dsimp only at h
  refine RegI.d ?_
  rcases of_cond h with ⟨hc13, h⟩ | ⟨hc13, h⟩
  ·refine RunsI.fb 10 true hc13 6 ?_
   refine RunsI.qd 1 7 [.c 8, .c 10] 1 [(2, .string (⟨#[104, 97, 108, 116]⟩ : ByteArray))] ?_
   refine RunsI.t (.string (⟨#[104, 97, 108, 116]⟩ : ByteArray)) ?_
   obtain rfl := Option.some.inj h
   exact ⟨rfl, h8.below⟩
  ·refine RunsI.fb 10 false hc13 9 ?_
   refine RunsI.g 1 [.c 10] ?_
   refine RunsI.g 1 [.c 11, .c 12] ?_
   refine RunsI.any 12 (by kernel_rfl) (by kernel_rfl) (by kernel_rfl) (Kp ([] : List Nat) (World.drew w9)) ?_
   have h15 := h8.drew
   generalize World.drew w9 = w14 at h15 ⊢
   have hS16 := Kp.refl ([] : List Nat) w14
   refine AnyE.lB 0 11 0 126 b2 0 (.agg #[iA a0, iB a1, iB a2, iC a3, iA a4, iA a5, iA a6, iA a7, iA a8, iA a9, iA d0]) [] h15 rfl hS16 rfl ?_
   refine AnyE.u 1 12 (pu b2 7) hS16 ?_
   refine AnyE.lB 2 13 0 3 b2 7 (iA a7) [] h15 rfl hS16 rfl ?_
   obtain ⟨t19, hg18, h⟩ := of_bind h
   refine AnyE.cl 3 14 (.string t19) 150 #[.agg #[iA a0, iB a1, iB a2, iC a3, iA a4, iA a5, iA a6, iA a7, iA a8, iA a9, iA d0], iA a7] hS16 (fun w hk => text_shown_reg_150_ok K (fun _ => False) w a0 a1 a2 a3 a4 a5 a6 a7 a8 a9 d0 a7 nF (gF (h15.atI [] rfl hk 1 rfl rfl)) (gF (h15.atI [] rfl hk 2 rfl rfl)) hg18) ?_
   obtain ⟨hc20, h⟩ := of_cond0 h
   refine AnyE.ct 4 15 sd1 t19 hS16 hc20 ?_
   obtain ⟨hc21, h⟩ := of_cond0 h
   refine AnyE.ct 5 16 (sd1 ++ t19) sd0 hS16 hc21 ?_
   refine AnyE.lB 6 17 0 126 b2 0 (.agg #[iA a0, iB a1, iB a2, iC a3, iA a4, iA a5, iA a6, iA a7, iA a8, iA a9, iA d0]) [] h15 rfl hS16 rfl ?_
   refine AnyE.u 7 18 (pu b2 8) hS16 ?_
   refine AnyE.lB 8 19 0 3 b2 8 (iA a8) [] h15 rfl hS16 rfl ?_
   obtain ⟨t23, hg22, h⟩ := of_bind h
   refine AnyE.cl 9 20 (.string t23) 150 #[.agg #[iA a0, iB a1, iB a2, iC a3, iA a4, iA a5, iA a6, iA a7, iA a8, iA a9, iA d0], iA a8] hS16 (fun w hk => text_shown_reg_150_ok K (fun _ => False) w a0 a1 a2 a3 a4 a5 a6 a7 a8 a9 d0 a8 nF (gF (h15.atI [] rfl hk 1 rfl rfl)) (gF (h15.atI [] rfl hk 2 rfl rfl)) hg22) ?_
   obtain ⟨hc24, h⟩ := of_cond0 h
   refine AnyE.ct 10 21 ((sd1 ++ t19) ++ sd0) t23 hS16 hc24 ?_
   refine AnyE.u 11 2 (.string (((sd1 ++ t19) ++ sd0) ++ t23)) hS16 ?_
   refine AnyE.done (by kernel_rfl) (fun w25 hu26 => ?_)
   have h27 := h15.call hu26
   refine RunsI.l [2] [(2, .string (((sd1 ++ t19) ++ sd0) ++ t23))] ?_
   refine RunsI.t (.string (((sd1 ++ t19) ++ sd0) ++ t23)) ?_
   obtain rfl := Option.some.inj h
   exact ⟨rfl, h27.below⟩
 clear hJ11
 rcases of_cond h with ⟨hc6, h⟩ | ⟨hc6, h⟩
 ·refine RegI.f 6 true hc6 ?_
  refine RegI.p 1 [(1, pt b2), (6, .bool true), (7, pu b2 8)] ?_
  refine RegI.o (OpE.lB 8 2 3 b2 8 (iA a8) h3 rfl ?_)
  refine RegI.p 2 [(1, pt b2), (10, .bool (a8 == 6))] ?_
  refine RegI.l [1, 10] [(1, pt b2), (10, .bool (a8 == 6))] ?_
  exact hj12 (a8 == 6) w1 h (h3.pick [2, 0, 1] (by decide))
 ·refine RegI.f 6 false hc6 ?_
  refine RegI.p 4 [(1, pt b2), (10, .bool false)] ?_
  refine RegI.l [1, 10] [(1, pt b2), (10, .bool false)] ?_
  exact hj12 false w1 h (h3.pick [2, 0, 1] (by decide))
end

/-! ### (charabanc/text.shown).sums (function 96) -/
section
def text_shown_sums_96.post (M0 : Nat → Prop) (w0 : World) (r : ByteArray) : Ending → World → Prop := fun e w => e = .returned (.string r) ∧ Below w0.heap.size w0 w
def text_shown_sums_96.f (K : Nat) (p0_0_0 : Int) (p0_0_1 : Int) (p0_0_2 : Int) (p0_0_3 : Int) (p0_0_4 : Int) (p0_0_5 : Int) (p0_1 : Int) (p0_2 : Int) (p0_3 : Int) (p0_4 : Int) (p0_5 : Int) : Option ByteArray := cond (inR p0_2 8) ((text_shown_reg_150.f K p0_0_0 p0_0_1 p0_0_2 p0_0_3 p0_0_4 p0_0_5 p0_1 p0_2 p0_3 p0_4 p0_5 p0_3).bind fun t12 => cond (mayCat (rdD tab_3 p0_2).size t12.size) (some ((rdD tab_3 p0_2) ++ t12)) none) none
theorem text_shown_sums_96_ok (K : Nat) (M0 : Nat → Prop) (w0 : World) (a0 : Int) (a1 : Int) (a2 : Int) (a3 : Int) (a4 : Int) (a5 : Int) (a6 : Int) (a7 : Int) (a8 : Int) (a9 : Int) (d0 : Int) (ho : ∀ b, M0 b → b < w0.heap.size) (hG3 : (gl 3 (tab_3.flatMap en_3)).ok w0 M0) (hG6 : (gl 6 (tab_6.flatMap en_6)).ok w0 M0) (hG12 : (gl 12 (tab_12.flatMap en_12)).ok w0 M0) {r : ByteArray} (h : text_shown_sums_96.f K a0 a1 a2 a3 a4 a5 a6 a7 a8 a9 d0 = some r) :
  Calls Tryz.prog 96 #[.agg #[iA a0, iB a1, iB a2, iC a3, iA a4, iA a5, iA a6, iA a7, iA a8, iA a9, iA d0]] w0 (text_shown_sums_96.post M0 w0 r) := by
 unfold text_shown_sums_96.f at h
 have h0 : Holds M0 w0 w0 [] := Holds.start ho
 have h0g3 := h0.add (gl 3 (tab_3.flatMap en_3)) rfl ⟨hG3.1, fun hm => hG3.2.1 (hm.elim id (fun hm => absurd hm (by simp [mines, sl, gl, cel]))), hG3.2.2⟩
 have h0g6 := h0g3.add (gl 6 (tab_6.flatMap en_6)) rfl ⟨hG6.1, fun hm => hG6.2.1 (hm.elim id (fun hm => absurd hm (by simp [mines, sl, gl, cel]))), hG6.2.2⟩
 have h0g12 := h0g6.add (gl 12 (tab_12.flatMap en_12)) rfl ⟨hG12.1, fun hm => hG12.2.1 (hm.elim id (fun hm => absurd hm (by simp [mines, sl, gl, cel]))), hG12.2.2⟩
 have h0 : Holds M0 w0 w0 [gl 3 (tab_3.flatMap en_3), gl 6 (tab_6.flatMap en_6), gl 12 (tab_12.flatMap en_12)] := h0g12
 refine calls_of F96 rfl [.agg #[iA a0, iB a1, iB a2, iC a3, iA a4, iA a5, iA a6, iA a7, iA a8, iA a9, iA d0]] (by kernel_rfl) ?_
 refine RunsI.g 1 [.c 1, .c 2] ?_
 refine RunsI.r ?_
 refine RegI.o (OpE.bx 1 126 [iA a0, iB a1, iB a2, iC a3, iA a4, iA a5, iA a6, iA a7, iA a8, iA a9, iA d0] h0 ?_)
 intro w1 b2 h3 hb4 hn5
 refine RegI.pd 1 [(1, pt b2)] ?_
 refine RunsI.g 1 [.c 3, .c 4] ?_
 refine RunsI.any 10 (by kernel_rfl) (by kernel_rfl) (by kernel_rfl) (Kp ([] : List Nat) (World.drew w1)) ?_
 have h7 := h3.drew
 generalize World.drew w1 = w6 at h7 ⊢
 have hS8 := Kp.refl ([] : List Nat) w6
 refine AnyE.u 0 3 (pu b2 7) hS8 ?_
 refine AnyE.lB 1 4 3 3 b2 7 (iA a7) [] h7 rfl hS8 rfl ?_
 obtain ⟨hc10, h⟩ := of_cond0 h
 refine AnyE.run 2 5 (.pointer (some ⟨3, 0 + (Int.toNat a7) * 1, none⟩)) (by kernel_rfl) hS8 (fun _ hk => run_idxArr (T := 169) (b := 3) (o := 0) (ix := a7) (len := 8) (s := 1) (by kernel_rfl) (by kernel_rfl) hc10) ?_
 refine AnyE.loadTab 3 6 0 9 en_3 tab_3 0 1 a7 (.string (rdD tab_3 a7)) [] (o := 0 + (Int.toNat a7) * 1 + 0) h7 rfl (by kernel_rfl) hS8 rfl rfl (fun _ => rfl) (by kernel_rfl) (by omega) hc10 (fun _ => by kernel_rfl) ?_
 refine AnyE.lB 4 7 3 126 b2 0 (.agg #[iA a0, iB a1, iB a2, iC a3, iA a4, iA a5, iA a6, iA a7, iA a8, iA a9, iA d0]) [] h7 rfl hS8 rfl ?_
 refine AnyE.u 5 8 (pu b2 8) hS8 ?_
 refine AnyE.lB 6 9 3 3 b2 8 (iA a8) [] h7 rfl hS8 rfl ?_
 obtain ⟨t12, hg11, h⟩ := of_bind h
 refine AnyE.cl 7 10 (.string t12) 150 #[.agg #[iA a0, iB a1, iB a2, iC a3, iA a4, iA a5, iA a6, iA a7, iA a8, iA a9, iA d0], iA a8] hS8 (fun w hk => text_shown_reg_150_ok K (fun _ => False) w a0 a1 a2 a3 a4 a5 a6 a7 a8 a9 d0 a8 nF (gF (h7.atI [] rfl hk 1 rfl rfl)) (gF (h7.atI [] rfl hk 2 rfl rfl)) hg11) ?_
 obtain ⟨hc13, h⟩ := of_cond0 h
 refine AnyE.ct 8 11 (rdD tab_3 a7) t12 hS8 hc13 ?_
 refine AnyE.u 9 2 (.string ((rdD tab_3 a7) ++ t12)) hS8 ?_
 refine AnyE.done (by kernel_rfl) (fun w14 hu15 => ?_)
 have h16 := h7.call hu15
 refine RunsI.l [2] [(2, .string ((rdD tab_3 a7) ++ t12))] ?_
 refine RunsI.t (.string ((rdD tab_3 a7) ++ t12)) ?_
 obtain rfl := Option.some.inj h
 exact ⟨rfl, h16.below⟩
end

/-! ### (charabanc/text.shown).high (function 97) -/
section
def text_shown_high_97.post (M0 : Nat → Prop) (w0 : World) (r : ByteArray) : Ending → World → Prop := fun e w => e = .returned (.string r) ∧ Below w0.heap.size w0 w
def text_shown_high_97.f (K : Nat) (p0_0_0 : Int) (p0_0_1 : Int) (p0_0_2 : Int) (p0_0_3 : Int) (p0_0_4 : Int) (p0_0_5 : Int) (p0_1 : Int) (p0_2 : Int) (p0_3 : Int) (p0_4 : Int) (p0_5 : Int) : Option ByteArray := cond (p0_3 == 0) (cond (inR p0_2 8) (cond (mayCat (⟨#[114, 101, 116, 32]⟩ : ByteArray).size (rdD tab_1 p0_2).size) (some ((⟨#[114, 101, 116, 32]⟩ : ByteArray) ++ (rdD tab_1 p0_2))) none) none) (cond (p0_3 == 1) (cond (p0_5 == 0) ((text_shown_pair_147.f K p0_0_0 p0_0_1 p0_0_2 p0_0_3 p0_0_4 p0_0_5 p0_1 p0_2 p0_3 p0_4 p0_5 p0_4 true).bind fun t15 => cond (mayCat (⟨#[112, 111, 112, 32]⟩ : ByteArray).size t15.size) (some ((⟨#[112, 111, 112, 32]⟩ : ByteArray) ++ t15)) none) ((text_shown_hl_146.f K p0_0_0 p0_0_1 p0_0_2 p0_0_3 p0_0_4 p0_0_5 p0_1 p0_2 p0_3 p0_4 p0_5).bind fun t22 => cond (mayCat (⟨#[106, 112, 32, 40]⟩ : ByteArray).size t22.size) (cond (mayCat ((⟨#[106, 112, 32, 40]⟩ : ByteArray) ++ t22).size (⟨#[41]⟩ : ByteArray).size) ((text_shown_hl_146.f K p0_0_0 p0_0_1 p0_0_2 p0_0_3 p0_0_4 p0_0_5 p0_1 p0_2 p0_3 p0_4 p0_5).bind fun t26 => cond (mayCat (⟨#[108, 100, 32, 115, 112, 44]⟩ : ByteArray).size t26.size) (cond (inR p0_4 4) (some (rdD ([(⟨#[114, 101, 116]⟩ : ByteArray), (⟨#[101, 120, 120]⟩ : ByteArray), (((⟨#[106, 112, 32, 40]⟩ : ByteArray) ++ t22) ++ (⟨#[41]⟩ : ByteArray)), ((⟨#[108, 100, 32, 115, 112, 44]⟩ : ByteArray) ++ t26)] : List ByteArray) p0_4)) none) none) none) none)) (cond (p0_3 == 2) (cond (inR p0_2 8) (cond (mayCat (⟨#[106, 112, 32]⟩ : ByteArray).size (rdD tab_1 p0_2).size) (cond (mayCat ((⟨#[106, 112, 32]⟩ : ByteArray) ++ (rdD tab_1 p0_2)).size (⟨#[44]⟩ : ByteArray).size) ((text_shown_nn_148.f K p0_0_0 p0_0_1 p0_0_2 p0_0_3 p0_0_4 p0_0_5 p0_1 p0_2 p0_3 p0_4 p0_5).bind fun t41 => cond (mayCat (((⟨#[106, 112, 32]⟩ : ByteArray) ++ (rdD tab_1 p0_2)) ++ (⟨#[44]⟩ : ByteArray)).size t41.size) (some ((((⟨#[106, 112, 32]⟩ : ByteArray) ++ (rdD tab_1 p0_2)) ++ (⟨#[44]⟩ : ByteArray)) ++ t41)) none) none) none) none) (cond (p0_3 == 3) ((text_shown_nn_148.f K p0_0_0 p0_0_1 p0_0_2 p0_0_3 p0_0_4 p0_0_5 p0_1 p0_2 p0_3 p0_4 p0_5).bind fun t52 => cond (mayCat (⟨#[106, 112, 32]⟩ : ByteArray).size t52.size) ((text_shown_n_151.f K p0_0_0 p0_0_1 p0_0_2 p0_0_3 p0_0_4 p0_0_5 p0_1 p0_2 p0_3 p0_4 p0_5).bind fun t55 => cond (mayCat (⟨#[111, 117, 116, 32, 40]⟩ : ByteArray).size t55.size) (cond (mayCat ((⟨#[111, 117, 116, 32, 40]⟩ : ByteArray) ++ t55).size (⟨#[41, 44, 97]⟩ : ByteArray).size) ((text_shown_n_151.f K p0_0_0 p0_0_1 p0_0_2 p0_0_3 p0_0_4 p0_0_5 p0_1 p0_2 p0_3 p0_4 p0_5).bind fun t59 => cond (mayCat (⟨#[105, 110, 32, 97, 44, 40]⟩ : ByteArray).size t59.size) (cond (mayCat ((⟨#[105, 110, 32, 97, 44, 40]⟩ : ByteArray) ++ t59).size (⟨#[41]⟩ : ByteArray).size) ((text_shown_hl_146.f K p0_0_0 p0_0_1 p0_0_2 p0_0_3 p0_0_4 p0_0_5 p0_1 p0_2 p0_3 p0_4 p0_5).bind fun t63 => cond (mayCat (⟨#[101, 120, 32, 40, 115, 112, 41, 44]⟩ : ByteArray).size t63.size) (cond (inR p0_2 8) (some (rdD ([((⟨#[106, 112, 32]⟩ : ByteArray) ++ t52), (⟨#[112, 114, 101, 102, 105, 120]⟩ : ByteArray), (((⟨#[111, 117, 116, 32, 40]⟩ : ByteArray) ++ t55) ++ (⟨#[41, 44, 97]⟩ : ByteArray)), (((⟨#[105, 110, 32, 97, 44, 40]⟩ : ByteArray) ++ t59) ++ (⟨#[41]⟩ : ByteArray)), ((⟨#[101, 120, 32, 40, 115, 112, 41, 44]⟩ : ByteArray) ++ t63), (⟨#[101, 120, 32, 100, 101, 44, 104, 108]⟩ : ByteArray), (⟨#[100, 105]⟩ : ByteArray), (⟨#[101, 105]⟩ : ByteArray)] : List ByteArray) p0_2)) none) none) none) none) none) none) none) (cond (p0_3 == 4) (cond (inR p0_2 8) (cond (mayCat (⟨#[99, 97, 108, 108, 32]⟩ : ByteArray).size (rdD tab_1 p0_2).size) (cond (mayCat ((⟨#[99, 97, 108, 108, 32]⟩ : ByteArray) ++ (rdD tab_1 p0_2)).size (⟨#[44]⟩ : ByteArray).size) ((text_shown_nn_148.f K p0_0_0 p0_0_1 p0_0_2 p0_0_3 p0_0_4 p0_0_5 p0_1 p0_2 p0_3 p0_4 p0_5).bind fun t78 => cond (mayCat (((⟨#[99, 97, 108, 108, 32]⟩ : ByteArray) ++ (rdD tab_1 p0_2)) ++ (⟨#[44]⟩ : ByteArray)).size t78.size) (some ((((⟨#[99, 97, 108, 108, 32]⟩ : ByteArray) ++ (rdD tab_1 p0_2)) ++ (⟨#[44]⟩ : ByteArray)) ++ t78)) none) none) none) none) (cond (p0_3 == 5) (cond (p0_5 == 0) ((text_shown_pair_147.f K p0_0_0 p0_0_1 p0_0_2 p0_0_3 p0_0_4 p0_0_5 p0_1 p0_2 p0_3 p0_4 p0_5 p0_4 true).bind fun t89 => cond (mayCat (⟨#[112, 117, 115, 104, 32]⟩ : ByteArray).size t89.size) (some ((⟨#[112, 117, 115, 104, 32]⟩ : ByteArray) ++ t89)) none) (cond (p0_4 == 0) ((text_shown_nn_148.f K p0_0_0 p0_0_1 p0_0_2 p0_0_3 p0_0_4 p0_0_5 p0_1 p0_2 p0_3 p0_4 p0_5).bind fun t96 => cond (mayCat (⟨#[99, 97, 108, 108, 32]⟩ : ByteArray).size t96.size) (some ((⟨#[99, 97, 108, 108, 32]⟩ : ByteArray) ++ t96)) none) (some (⟨#[112, 114, 101, 102, 105, 120]⟩ : ByteArray)))) (cond (p0_3 == 6) (cond (inR p0_2 8) ((text_shown_n_151.f K p0_0_0 p0_0_1 p0_0_2 p0_0_3 p0_0_4 p0_0_5 p0_1 p0_2 p0_3 p0_4 p0_5).bind fun t105 => cond (mayCat (rdD tab_3 p0_2).size t105.size) (some ((rdD tab_3 p0_2) ++ t105)) none) none) ((text_Hex_37.f K (IntKind.wrap .i64 (8 * p0_2)) 2).bind fun t114 => cond (mayCat (⟨#[114, 115, 116, 32]⟩ : ByteArray).size t114.size) (some ((⟨#[114, 115, 116, 32]⟩ : ByteArray) ++ t114)) none)))))))
theorem text_shown_high_97_ok (K : Nat) (M0 : Nat → Prop) (w0 : World) (a0 : Int) (a1 : Int) (a2 : Int) (a3 : Int) (a4 : Int) (a5 : Int) (a6 : Int) (a7 : Int) (a8 : Int) (a9 : Int) (d0 : Int) (ho : ∀ b, M0 b → b < w0.heap.size) (hG1 : (gl 1 (tab_1.flatMap en_1)).ok w0 M0) (hG3 : (gl 3 (tab_3.flatMap en_3)).ok w0 M0) (hG7 : (gl 7 (tab_7.flatMap en_7)).ok w0 M0) (hG12 : (gl 12 (tab_12.flatMap en_12)).ok w0 M0) (hG15 : (gl 15 (tab_15.flatMap en_15)).ok w0 M0) (hG16 : (gl 16 (tab_16.flatMap en_16)).ok w0 M0) {r : ByteArray} (h : text_shown_high_97.f K a0 a1 a2 a3 a4 a5 a6 a7 a8 a9 d0 = some r) :
  Calls Tryz.prog 97 #[.agg #[iA a0, iB a1, iB a2, iC a3, iA a4, iA a5, iA a6, iA a7, iA a8, iA a9, iA d0]] w0 (text_shown_high_97.post M0 w0 r) := by
 unfold text_shown_high_97.f at h
 have h0 : Holds M0 w0 w0 [] := Holds.start ho
 have h0g1 := h0.add (gl 1 (tab_1.flatMap en_1)) rfl ⟨hG1.1, fun hm => hG1.2.1 (hm.elim id (fun hm => absurd hm (by simp [mines, sl, gl, cel]))), hG1.2.2⟩
 have h0g3 := h0g1.add (gl 3 (tab_3.flatMap en_3)) rfl ⟨hG3.1, fun hm => hG3.2.1 (hm.elim id (fun hm => absurd hm (by simp [mines, sl, gl, cel]))), hG3.2.2⟩
 have h0g7 := h0g3.add (gl 7 (tab_7.flatMap en_7)) rfl ⟨hG7.1, fun hm => hG7.2.1 (hm.elim id (fun hm => absurd hm (by simp [mines, sl, gl, cel]))), hG7.2.2⟩
 have h0g12 := h0g7.add (gl 12 (tab_12.flatMap en_12)) rfl ⟨hG12.1, fun hm => hG12.2.1 (hm.elim id (fun hm => absurd hm (by simp [mines, sl, gl, cel]))), hG12.2.2⟩
 have h0g15 := h0g12.add (gl 15 (tab_15.flatMap en_15)) rfl ⟨hG15.1, fun hm => hG15.2.1 (hm.elim id (fun hm => absurd hm (by simp [mines, sl, gl, cel]))), hG15.2.2⟩
 have h0g16 := h0g15.add (gl 16 (tab_16.flatMap en_16)) rfl ⟨hG16.1, fun hm => hG16.2.1 (hm.elim id (fun hm => absurd hm (by simp [mines, sl, gl, cel]))), hG16.2.2⟩
 have h0 : Holds M0 w0 w0 [gl 1 (tab_1.flatMap en_1), gl 3 (tab_3.flatMap en_3), gl 7 (tab_7.flatMap en_7), gl 12 (tab_12.flatMap en_12), gl 15 (tab_15.flatMap en_15), gl 16 (tab_16.flatMap en_16)] := h0g16
 refine calls_of F97 rfl [.agg #[iA a0, iB a1, iB a2, iC a3, iA a4, iA a5, iA a6, iA a7, iA a8, iA a9, iA d0]] (by kernel_rfl) ?_
 refine RunsI.g 1 [.c 1, .c 2] ?_
 refine RunsI.r ?_
 refine RegI.o (OpE.bx 1 126 [iA a0, iB a1, iB a2, iC a3, iA a4, iA a5, iA a6, iA a7, iA a8, iA a9, iA d0] h0 ?_)
 intro w1 b2 h3 hb4 hn5
 refine RegI.p 1 [(1, pt b2)] ?_
 refine RegI.q 2 4 [.c 5, .c 72] 1 [(1, pt b2), (3, pu b2 8)] ?_
 refine RegI.o (OpE.lB 4 6 3 b2 8 (iA a8) h3 rfl ?_)
 refine RegI.q 2 7 [.c 8, .blk 0, .c 72] 2 [(1, pt b2), (4, iA a8), (5, .bool (a8 == 0))] ?_
 refine RegI.d ?_
 rcases of_cond h with ⟨hc6, h⟩ | ⟨hc6, h⟩
 ·refine RunsI.fb 5 true hc6 9 ?_
  refine RunsI.q 1 10 [.c 11, .blk 0, .c 72] 1 [(7, pu b2 7)] ?_
  refine RegI.o (OpE.lB 8 6 3 b2 7 (iA a7) h3 rfl ?_)
  obtain ⟨hc7, h⟩ := of_cond0 h
  refine RegI.o (OpE.run 9 (by kernel_rfl) (run_idxArr (T := 169) (b := 1) (o := 0) (ix := a7) (len := 8) (s := 1) (by kernel_rfl) (by kernel_rfl) hc7) ?_)
  refine RegI.o (OpE.loadTab 10 0 9 en_1 tab_1 0 1 a7 (.string (rdD tab_1 a7)) (o := 0 + (Int.toNat a7) * 1 + 0) h3 (by kernel_rfl) rfl (fun _ => rfl) (by kernel_rfl) (by omega) hc7 (fun _ => by kernel_rfl) ?_)
  obtain ⟨hc8, h⟩ := of_cond0 h
  refine RegI.o (OpE.ct 11 sd34 (rdD tab_1 a7) hc8 ?_)
  refine RegI.pd 1 [(2, .string (sd34 ++ (rdD tab_1 a7)))] ?_
  refine RunsI.t (.string (sd34 ++ (rdD tab_1 a7))) ?_
  obtain rfl := Option.some.inj h
  exact ⟨rfl, h3.below⟩
 ·refine RunsI.fb 5 false hc6 12 ?_
  refine RunsI.qd 1 13 [.c 14, .blk 0, .c 72] 2 [(1, pt b2), (4, iA a8), (12, .bool (a8 == 1))] ?_
  rcases of_cond h with ⟨hc9, h⟩ | ⟨hc9, h⟩
  ·refine RunsI.fb 12 true hc9 15 ?_
   refine RunsI.q 2 17 [.c 18, .c 23, .blk 0, .c 72] 1 [(1, pt b2), (14, pu b2 10)] ?_
   refine RegI.o (OpE.lB 15 6 3 b2 10 (iA d0) h3 rfl ?_)
   refine RegI.pd 1 [(1, pt b2), (16, .bool (d0 == 0))] ?_
   rcases of_cond h with ⟨hc10, h⟩ | ⟨hc10, h⟩
   ·refine RunsI.fb 16 true hc10 19 ?_
    refine RunsI.g 1 [.c 20, .c 21, .c 23, .blk 0, .c 72] ?_
    refine RunsI.r ?_
    refine RegI.o (OpE.lB 17 6 126 b2 0 (.agg #[iA a0, iB a1, iB a2, iC a3, iA a4, iA a5, iA a6, iA a7, iA a8, iA a9, iA d0]) h3 rfl ?_)
    refine RegI.p 1 [(17, .agg #[iA a0, iB a1, iB a2, iC a3, iA a4, iA a5, iA a6, iA a7, iA a8, iA a9, iA d0]), (18, pu b2 9)] ?_
    refine RegI.o (OpE.lB 19 6 3 b2 9 (iA a9) h3 rfl ?_)
    obtain ⟨t15, hg14, h⟩ := of_bind h
    refine RegI.o (OpE.cl 20 147 #[.agg #[iA a0, iB a1, iB a2, iC a3, iA a4, iA a5, iA a6, iA a7, iA a8, iA a9, iA d0], iA a9, .bool true] ((text_shown_pair_147_ok K _ w1  a0 a1 a2 a3 a4 a5 a6 a7 a8 a9 d0 a9 true h3.old' (h3.get 2 rfl) hg14).mono ?_))
    rintro _ w11 ⟨rfl, hb12⟩
    refine ⟨_, rfl, ?_⟩
    have h13 := h3.call hb12
    obtain ⟨hc16, h⟩ := of_cond0 h
    refine RegI.o (OpE.ct 21 sd35 t15 hc16 ?_)
    refine RegI.pd 1 [(2, .string (sd35 ++ t15))] ?_
    refine RunsI.t (.string (sd35 ++ t15)) ?_
    obtain rfl := Option.some.inj h
    exact ⟨rfl, h13.below⟩
   ·refine RunsI.fb 16 false hc10 22 ?_
    refine RunsI.g 1 [.c 23, .blk 0, .c 72] ?_
    refine RunsI.g 1 [.c 24, .c 25, .blk 0, .c 72] ?_
    refine RunsI.any 12 (by kernel_rfl) (by kernel_rfl) (by kernel_rfl) (Kp ([] : List Nat) (World.drew w1)) ?_
    have h18 := h3.drew
    generalize World.drew w1 = w17 at h18 ⊢
    have hS19 := Kp.refl ([] : List Nat) w17
    refine AnyE.lB 0 22 6 126 b2 0 (.agg #[iA a0, iB a1, iB a2, iC a3, iA a4, iA a5, iA a6, iA a7, iA a8, iA a9, iA d0]) [] h18 rfl hS19 rfl ?_
    obtain ⟨t22, hg21, h⟩ := of_bind h
    refine AnyE.cl 1 23 (.string t22) 146 #[.agg #[iA a0, iB a1, iB a2, iC a3, iA a4, iA a5, iA a6, iA a7, iA a8, iA a9, iA d0]] hS19 (fun w hk => text_shown_hl_146_ok K (fun _ => False) w a0 a1 a2 a3 a4 a5 a6 a7 a8 a9 d0 nF (gF (h18.atI [] rfl hk 2 rfl rfl)) hg21) ?_
    obtain ⟨hc23, h⟩ := of_cond0 h
    refine AnyE.ct 2 24 sd7 t22 hS19 hc23 ?_
    obtain ⟨hc24, h⟩ := of_cond0 h
    refine AnyE.ct 3 25 (sd7 ++ t22) sd2 hS19 hc24 ?_
    refine AnyE.lB 4 26 6 126 b2 0 (.agg #[iA a0, iB a1, iB a2, iC a3, iA a4, iA a5, iA a6, iA a7, iA a8, iA a9, iA d0]) [] h18 rfl hS19 rfl ?_
    obtain ⟨t26, hg25, h⟩ := of_bind h
    refine AnyE.cl 5 27 (.string t26) 146 #[.agg #[iA a0, iB a1, iB a2, iC a3, iA a4, iA a5, iA a6, iA a7, iA a8, iA a9, iA d0]] hS19 (fun w hk => text_shown_hl_146_ok K (fun _ => False) w a0 a1 a2 a3 a4 a5 a6 a7 a8 a9 d0 nF (gF (h18.atI [] rfl hk 2 rfl rfl)) hg25) ?_
    obtain ⟨hc27, h⟩ := of_cond0 h
    refine AnyE.ct 6 28 sd13 t26 hS19 hc27 ?_
    refine AnyE.u 7 29 (.agg (List.flatMap (fun (x : ByteArray) => ([.string x] : List Value)) ([sd21, sd22, ((sd7 ++ t22) ++ sd2), (sd13 ++ t26)] : List ByteArray)).toArray) hS19 ?_
    refine AnyE.u 8 30 (pu b2 9) hS19 ?_
    refine AnyE.lB 9 31 6 3 b2 9 (iA a9) [] h18 rfl hS19 rfl ?_
    obtain ⟨hc28, h⟩ := of_cond0 h
    refine AnyE.run 10 32 (.string (rdD ([sd21, sd22, ((sd7 ++ t22) ++ sd2), (sd13 ++ t26)] : List ByteArray) a9)) (by kernel_rfl) hS19 (fun _ hk => run_indexTab (T0 := 170) (en := (fun (x : ByteArray) => ([.string x] : List Value))) (tab := ([sd21, sd22, ((sd7 ++ t22) ++ sd2), (sd13 ++ t26)] : List ByteArray)) (len := 4) (sz := 1) (j := a9) (v := .string (rdD ([sd21, sd22, ((sd7 ++ t22) ++ sd2), (sd13 ++ t26)] : List ByteArray) a9)) (fun _ => rfl) (by kernel_rfl) (by kernel_rfl) rfl hc28 (fun _ => by kernel_rfl)) ?_
    refine AnyE.u 11 2 (.string (rdD ([sd21, sd22, ((sd7 ++ t22) ++ sd2), (sd13 ++ t26)] : List ByteArray) a9)) hS19 ?_
    refine AnyE.done (by kernel_rfl) (fun w29 hu30 => ?_)
    have h31 := h18.call hu30
    refine RunsI.l [2] [(2, .string (rdD ([sd21, sd22, ((sd7 ++ t22) ++ sd2), (sd13 ++ t26)] : List ByteArray) a9))] ?_
    refine RunsI.t (.string (rdD ([sd21, sd22, ((sd7 ++ t22) ++ sd2), (sd13 ++ t26)] : List ByteArray) a9)) ?_
    obtain rfl := Option.some.inj h
    exact ⟨rfl, h31.below⟩
  ·refine RunsI.fb 12 false hc9 26 ?_
   refine RunsI.qd 1 27 [.c 28, .blk 0, .c 72] 2 [(1, pt b2), (4, iA a8), (33, .bool (a8 == 2))] ?_
   rcases of_cond h with ⟨hc32, h⟩ | ⟨hc32, h⟩
   ·refine RunsI.fb 33 true hc32 29 ?_
    refine RunsI.g 1 [.c 30, .c 31, .blk 0, .c 72] ?_
    refine RunsI.any 10 (by kernel_rfl) (by kernel_rfl) (by kernel_rfl) (Kp ([] : List Nat) (World.drew w1)) ?_
    have h34 := h3.drew
    generalize World.drew w1 = w33 at h34 ⊢
    have hS35 := Kp.refl ([] : List Nat) w33
    refine AnyE.u 0 35 (pu b2 7) hS35 ?_
    refine AnyE.lB 1 36 6 3 b2 7 (iA a7) [] h34 rfl hS35 rfl ?_
    obtain ⟨hc37, h⟩ := of_cond0 h
    refine AnyE.run 2 37 (.pointer (some ⟨1, 0 + (Int.toNat a7) * 1, none⟩)) (by kernel_rfl) hS35 (fun _ hk => run_idxArr (T := 169) (b := 1) (o := 0) (ix := a7) (len := 8) (s := 1) (by kernel_rfl) (by kernel_rfl) hc37) ?_
    refine AnyE.loadTab 3 38 0 9 en_1 tab_1 0 1 a7 (.string (rdD tab_1 a7)) [] (o := 0 + (Int.toNat a7) * 1 + 0) h34 rfl (by kernel_rfl) hS35 rfl rfl (fun _ => rfl) (by kernel_rfl) (by omega) hc37 (fun _ => by kernel_rfl) ?_
    obtain ⟨hc38, h⟩ := of_cond0 h
    refine AnyE.ct 4 39 sd6 (rdD tab_1 a7) hS35 hc38 ?_
    obtain ⟨hc39, h⟩ := of_cond0 h
    refine AnyE.ct 5 40 (sd6 ++ (rdD tab_1 a7)) sd0 hS35 hc39 ?_
    refine AnyE.lB 6 41 6 126 b2 0 (.agg #[iA a0, iB a1, iB a2, iC a3, iA a4, iA a5, iA a6, iA a7, iA a8, iA a9, iA d0]) [] h34 rfl hS35 rfl ?_
    obtain ⟨t41, hg40, h⟩ := of_bind h
    refine AnyE.cl 7 42 (.string t41) 148 #[.agg #[iA a0, iB a1, iB a2, iC a3, iA a4, iA a5, iA a6, iA a7, iA a8, iA a9, iA d0]] hS35 (fun w hk => text_shown_nn_148_ok K (fun _ => False) w a0 a1 a2 a3 a4 a5 a6 a7 a8 a9 d0 nF (gF (h34.atI [] rfl hk 3 rfl rfl)) (gF (h34.atI [] rfl hk 4 rfl rfl)) (gF (h34.atI [] rfl hk 5 rfl rfl)) hg40) ?_
    obtain ⟨hc42, h⟩ := of_cond0 h
    refine AnyE.ct 8 43 ((sd6 ++ (rdD tab_1 a7)) ++ sd0) t41 hS35 hc42 ?_
    refine AnyE.u 9 2 (.string (((sd6 ++ (rdD tab_1 a7)) ++ sd0) ++ t41)) hS35 ?_
    refine AnyE.done (by kernel_rfl) (fun w43 hu44 => ?_)
    have h45 := h34.call hu44
    refine RunsI.l [2] [(2, .string (((sd6 ++ (rdD tab_1 a7)) ++ sd0) ++ t41))] ?_
    refine RunsI.t (.string (((sd6 ++ (rdD tab_1 a7)) ++ sd0) ++ t41)) ?_
    obtain rfl := Option.some.inj h
    exact ⟨rfl, h45.below⟩
   ·refine RunsI.fb 33 false hc32 32 ?_
    refine RunsI.qd 1 33 [.c 34, .blk 0, .c 72] 2 [(1, pt b2), (4, iA a8), (44, .bool (a8 == 3))] ?_
    rcases of_cond h with ⟨hc46, h⟩ | ⟨hc46, h⟩
    ·refine RunsI.fb 44 true hc46 35 ?_
     refine RunsI.g 1 [.c 36, .c 37, .blk 0, .c 72] ?_
     refine RunsI.any 19 (by kernel_rfl) (by kernel_rfl) (by kernel_rfl) (Kp ([] : List Nat) (World.drew w1)) ?_
     have h48 := h3.drew
     generalize World.drew w1 = w47 at h48 ⊢
     have hS49 := Kp.refl ([] : List Nat) w47
     refine AnyE.lB 0 46 6 126 b2 0 (.agg #[iA a0, iB a1, iB a2, iC a3, iA a4, iA a5, iA a6, iA a7, iA a8, iA a9, iA d0]) [] h48 rfl hS49 rfl ?_
     obtain ⟨t52, hg51, h⟩ := of_bind h
     refine AnyE.cl 1 47 (.string t52) 148 #[.agg #[iA a0, iB a1, iB a2, iC a3, iA a4, iA a5, iA a6, iA a7, iA a8, iA a9, iA d0]] hS49 (fun w hk => text_shown_nn_148_ok K (fun _ => False) w a0 a1 a2 a3 a4 a5 a6 a7 a8 a9 d0 nF (gF (h48.atI [] rfl hk 3 rfl rfl)) (gF (h48.atI [] rfl hk 4 rfl rfl)) (gF (h48.atI [] rfl hk 5 rfl rfl)) hg51) ?_
     obtain ⟨hc53, h⟩ := of_cond0 h
     refine AnyE.ct 2 48 sd6 t52 hS49 hc53 ?_
     refine AnyE.lB 3 49 6 126 b2 0 (.agg #[iA a0, iB a1, iB a2, iC a3, iA a4, iA a5, iA a6, iA a7, iA a8, iA a9, iA d0]) [] h48 rfl hS49 rfl ?_
     obtain ⟨t55, hg54, h⟩ := of_bind h
     refine AnyE.cl 4 50 (.string t55) 151 #[.agg #[iA a0, iB a1, iB a2, iC a3, iA a4, iA a5, iA a6, iA a7, iA a8, iA a9, iA d0]] hS49 (fun w hk => text_shown_n_151_ok K (fun _ => False) w a0 a1 a2 a3 a4 a5 a6 a7 a8 a9 d0 nF (gF (h48.atI [] rfl hk 3 rfl rfl)) (gF (h48.atI [] rfl hk 4 rfl rfl)) (gF (h48.atI [] rfl hk 5 rfl rfl)) hg54) ?_
     obtain ⟨hc56, h⟩ := of_cond0 h
     refine AnyE.ct 5 51 sd8 t55 hS49 hc56 ?_
     obtain ⟨hc57, h⟩ := of_cond0 h
     refine AnyE.ct 6 52 (sd8 ++ t55) sd14 hS49 hc57 ?_
     refine AnyE.lB 7 53 6 126 b2 0 (.agg #[iA a0, iB a1, iB a2, iC a3, iA a4, iA a5, iA a6, iA a7, iA a8, iA a9, iA d0]) [] h48 rfl hS49 rfl ?_
     obtain ⟨t59, hg58, h⟩ := of_bind h
     refine AnyE.cl 8 54 (.string t59) 151 #[.agg #[iA a0, iB a1, iB a2, iC a3, iA a4, iA a5, iA a6, iA a7, iA a8, iA a9, iA d0]] hS49 (fun w hk => text_shown_n_151_ok K (fun _ => False) w a0 a1 a2 a3 a4 a5 a6 a7 a8 a9 d0 nF (gF (h48.atI [] rfl hk 3 rfl rfl)) (gF (h48.atI [] rfl hk 4 rfl rfl)) (gF (h48.atI [] rfl hk 5 rfl rfl)) hg58) ?_
     obtain ⟨hc60, h⟩ := of_cond0 h
     refine AnyE.ct 9 55 sd9 t59 hS49 hc60 ?_
     obtain ⟨hc61, h⟩ := of_cond0 h
     refine AnyE.ct 10 56 (sd9 ++ t59) sd2 hS49 hc61 ?_
     refine AnyE.lB 11 57 6 126 b2 0 (.agg #[iA a0, iB a1, iB a2, iC a3, iA a4, iA a5, iA a6, iA a7, iA a8, iA a9, iA d0]) [] h48 rfl hS49 rfl ?_
     obtain ⟨t63, hg62, h⟩ := of_bind h
     refine AnyE.cl 12 58 (.string t63) 146 #[.agg #[iA a0, iB a1, iB a2, iC a3, iA a4, iA a5, iA a6, iA a7, iA a8, iA a9, iA d0]] hS49 (fun w hk => text_shown_hl_146_ok K (fun _ => False) w a0 a1 a2 a3 a4 a5 a6 a7 a8 a9 d0 nF (gF (h48.atI [] rfl hk 2 rfl rfl)) hg62) ?_
     obtain ⟨hc64, h⟩ := of_cond0 h
     refine AnyE.ct 13 59 sd15 t63 hS49 hc64 ?_
     refine AnyE.u 14 60 (.agg (List.flatMap (fun (x : ByteArray) => ([.string x] : List Value)) ([(sd6 ++ t52), sd10, ((sd8 ++ t55) ++ sd14), ((sd9 ++ t59) ++ sd2), (sd15 ++ t63), sd23, sd24, sd25] : List ByteArray)).toArray) hS49 ?_
     refine AnyE.u 15 61 (pu b2 7) hS49 ?_
     refine AnyE.lB 16 62 6 3 b2 7 (iA a7) [] h48 rfl hS49 rfl ?_
     obtain ⟨hc65, h⟩ := of_cond0 h
     refine AnyE.run 17 63 (.string (rdD ([(sd6 ++ t52), sd10, ((sd8 ++ t55) ++ sd14), ((sd9 ++ t59) ++ sd2), (sd15 ++ t63), sd23, sd24, sd25] : List ByteArray) a7)) (by kernel_rfl) hS49 (fun _ hk => run_indexTab (T0 := 169) (en := (fun (x : ByteArray) => ([.string x] : List Value))) (tab := ([(sd6 ++ t52), sd10, ((sd8 ++ t55) ++ sd14), ((sd9 ++ t59) ++ sd2), (sd15 ++ t63), sd23, sd24, sd25] : List ByteArray)) (len := 8) (sz := 1) (j := a7) (v := .string (rdD ([(sd6 ++ t52), sd10, ((sd8 ++ t55) ++ sd14), ((sd9 ++ t59) ++ sd2), (sd15 ++ t63), sd23, sd24, sd25] : List ByteArray) a7)) (fun _ => rfl) (by kernel_rfl) (by kernel_rfl) rfl hc65 (fun _ => by kernel_rfl)) ?_
     refine AnyE.u 18 2 (.string (rdD ([(sd6 ++ t52), sd10, ((sd8 ++ t55) ++ sd14), ((sd9 ++ t59) ++ sd2), (sd15 ++ t63), sd23, sd24, sd25] : List ByteArray) a7)) hS49 ?_
     refine AnyE.done (by kernel_rfl) (fun w66 hu67 => ?_)
     have h68 := h48.call hu67
     refine RunsI.l [2] [(2, .string (rdD ([(sd6 ++ t52), sd10, ((sd8 ++ t55) ++ sd14), ((sd9 ++ t59) ++ sd2), (sd15 ++ t63), sd23, sd24, sd25] : List ByteArray) a7))] ?_
     refine RunsI.t (.string (rdD ([(sd6 ++ t52), sd10, ((sd8 ++ t55) ++ sd14), ((sd9 ++ t59) ++ sd2), (sd15 ++ t63), sd23, sd24, sd25] : List ByteArray) a7)) ?_
     obtain rfl := Option.some.inj h
     exact ⟨rfl, h68.below⟩
    ·refine RunsI.fb 44 false hc46 38 ?_
     refine RunsI.qd 1 39 [.c 40, .blk 0, .c 72] 2 [(1, pt b2), (4, iA a8), (64, .bool (a8 == 4))] ?_
     rcases of_cond h with ⟨hc69, h⟩ | ⟨hc69, h⟩
     ·refine RunsI.fb 64 true hc69 41 ?_
      refine RunsI.g 1 [.c 42, .c 43, .blk 0, .c 72] ?_
      refine RunsI.any 10 (by kernel_rfl) (by kernel_rfl) (by kernel_rfl) (Kp ([] : List Nat) (World.drew w1)) ?_
      have h71 := h3.drew
      generalize World.drew w1 = w70 at h71 ⊢
      have hS72 := Kp.refl ([] : List Nat) w70
      refine AnyE.u 0 66 (pu b2 7) hS72 ?_
      refine AnyE.lB 1 67 6 3 b2 7 (iA a7) [] h71 rfl hS72 rfl ?_
      obtain ⟨hc74, h⟩ := of_cond0 h
      refine AnyE.run 2 68 (.pointer (some ⟨1, 0 + (Int.toNat a7) * 1, none⟩)) (by kernel_rfl) hS72 (fun _ hk => run_idxArr (T := 169) (b := 1) (o := 0) (ix := a7) (len := 8) (s := 1) (by kernel_rfl) (by kernel_rfl) hc74) ?_
      refine AnyE.loadTab 3 69 0 9 en_1 tab_1 0 1 a7 (.string (rdD tab_1 a7)) [] (o := 0 + (Int.toNat a7) * 1 + 0) h71 rfl (by kernel_rfl) hS72 rfl rfl (fun _ => rfl) (by kernel_rfl) (by omega) hc74 (fun _ => by kernel_rfl) ?_
      obtain ⟨hc75, h⟩ := of_cond0 h
      refine AnyE.ct 4 70 sd11 (rdD tab_1 a7) hS72 hc75 ?_
      obtain ⟨hc76, h⟩ := of_cond0 h
      refine AnyE.ct 5 71 (sd11 ++ (rdD tab_1 a7)) sd0 hS72 hc76 ?_
      refine AnyE.lB 6 72 6 126 b2 0 (.agg #[iA a0, iB a1, iB a2, iC a3, iA a4, iA a5, iA a6, iA a7, iA a8, iA a9, iA d0]) [] h71 rfl hS72 rfl ?_
      obtain ⟨t78, hg77, h⟩ := of_bind h
      refine AnyE.cl 7 73 (.string t78) 148 #[.agg #[iA a0, iB a1, iB a2, iC a3, iA a4, iA a5, iA a6, iA a7, iA a8, iA a9, iA d0]] hS72 (fun w hk => text_shown_nn_148_ok K (fun _ => False) w a0 a1 a2 a3 a4 a5 a6 a7 a8 a9 d0 nF (gF (h71.atI [] rfl hk 3 rfl rfl)) (gF (h71.atI [] rfl hk 4 rfl rfl)) (gF (h71.atI [] rfl hk 5 rfl rfl)) hg77) ?_
      obtain ⟨hc79, h⟩ := of_cond0 h
      refine AnyE.ct 8 74 ((sd11 ++ (rdD tab_1 a7)) ++ sd0) t78 hS72 hc79 ?_
      refine AnyE.u 9 2 (.string (((sd11 ++ (rdD tab_1 a7)) ++ sd0) ++ t78)) hS72 ?_
      refine AnyE.done (by kernel_rfl) (fun w80 hu81 => ?_)
      have h82 := h71.call hu81
      refine RunsI.l [2] [(2, .string (((sd11 ++ (rdD tab_1 a7)) ++ sd0) ++ t78))] ?_
      refine RunsI.t (.string (((sd11 ++ (rdD tab_1 a7)) ++ sd0) ++ t78)) ?_
      obtain rfl := Option.some.inj h
      exact ⟨rfl, h82.below⟩
     ·refine RunsI.fb 64 false hc69 44 ?_
      refine RunsI.qd 1 45 [.c 46, .blk 0, .c 72] 2 [(1, pt b2), (4, iA a8), (75, .bool (a8 == 5))] ?_
      rcases of_cond h with ⟨hc83, h⟩ | ⟨hc83, h⟩
      ·refine RunsI.fb 75 true hc83 47 ?_
       refine RunsI.q 3 50 [.c 51, .blk 1, .c 62, .blk 0, .c 72] 1 [(1, pt b2), (78, pu b2 10)] ?_
       refine RegI.o (OpE.lB 79 6 3 b2 10 (iA d0) h3 rfl ?_)
       refine RegI.pd 2 [(1, pt b2), (77, .bool (d0 == 0))] ?_
       rcases of_cond h with ⟨hc84, h⟩ | ⟨hc84, h⟩
       ·refine RunsI.fb 77 true hc84 52 ?_
        refine RunsI.g 1 [.c 53, .c 54, .blk 1, .c 62, .blk 0, .c 72] ?_
        refine RunsI.r ?_
        refine RegI.o (OpE.lB 81 6 126 b2 0 (.agg #[iA a0, iB a1, iB a2, iC a3, iA a4, iA a5, iA a6, iA a7, iA a8, iA a9, iA d0]) h3 rfl ?_)
        refine RegI.p 1 [(81, .agg #[iA a0, iB a1, iB a2, iC a3, iA a4, iA a5, iA a6, iA a7, iA a8, iA a9, iA d0]), (82, pu b2 9)] ?_
        refine RegI.o (OpE.lB 83 6 3 b2 9 (iA a9) h3 rfl ?_)
        obtain ⟨t89, hg88, h⟩ := of_bind h
        refine RegI.o (OpE.cl 84 147 #[.agg #[iA a0, iB a1, iB a2, iC a3, iA a4, iA a5, iA a6, iA a7, iA a8, iA a9, iA d0], iA a9, .bool true] ((text_shown_pair_147_ok K _ w1  a0 a1 a2 a3 a4 a5 a6 a7 a8 a9 d0 a9 true h3.old' (h3.get 2 rfl) hg88).mono ?_))
        rintro _ w85 ⟨rfl, hb86⟩
        refine ⟨_, rfl, ?_⟩
        have h87 := h3.call hb86
        obtain ⟨hc90, h⟩ := of_cond0 h
        refine RegI.o (OpE.ct 85 sd36 t89 hc90 ?_)
        refine RegI.pd 1 [(2, .string (sd36 ++ t89))] ?_
        refine RunsI.t (.string (sd36 ++ t89)) ?_
        obtain rfl := Option.some.inj h
        exact ⟨rfl, h87.below⟩
       ·refine RunsI.fb 77 false hc84 55 ?_
        refine RunsI.q 1 56 [.c 57, .blk 1, .c 62, .blk 0, .c 72] 1 [(1, pt b2), (87, pu b2 9)] ?_
        refine RegI.o (OpE.lB 88 6 3 b2 9 (iA a9) h3 rfl ?_)
        refine RegI.pd 2 [(1, pt b2), (86, .bool (a9 == 0))] ?_
        rcases of_cond h with ⟨hc91, h⟩ | ⟨hc91, h⟩
        ·refine RunsI.fb 86 true hc91 58 ?_
         refine RunsI.g 1 [.c 59, .c 60, .blk 1, .c 62, .blk 0, .c 72] ?_
         refine RunsI.r ?_
         refine RegI.o (OpE.lB 90 6 126 b2 0 (.agg #[iA a0, iB a1, iB a2, iC a3, iA a4, iA a5, iA a6, iA a7, iA a8, iA a9, iA d0]) h3 rfl ?_)
         obtain ⟨t96, hg95, h⟩ := of_bind h
         refine RegI.o (OpE.cl 91 148 #[.agg #[iA a0, iB a1, iB a2, iC a3, iA a4, iA a5, iA a6, iA a7, iA a8, iA a9, iA d0]] ((text_shown_nn_148_ok K _ w1  a0 a1 a2 a3 a4 a5 a6 a7 a8 a9 d0 h3.old' (h3.get 3 rfl) (h3.get 4 rfl) (h3.get 5 rfl) hg95).mono ?_))
         rintro _ w92 ⟨rfl, hb93⟩
         refine ⟨_, rfl, ?_⟩
         have h94 := h3.call hb93
         obtain ⟨hc97, h⟩ := of_cond0 h
         refine RegI.o (OpE.ct 92 sd11 t96 hc97 ?_)
         refine RegI.pd 1 [(2, .string (sd11 ++ t96))] ?_
         refine RunsI.t (.string (sd11 ++ t96)) ?_
         obtain rfl := Option.some.inj h
         exact ⟨rfl, h94.below⟩
        ·refine RunsI.fb 86 false hc91 61 ?_
         refine RunsI.g 1 [.blk 1, .c 62, .blk 0, .c 72] ?_
         refine RunsI.qd 2 63 [.c 64, .blk 0, .c 72] 1 [(2, .string sd10)] ?_
         refine RunsI.t (.string sd10) ?_
         obtain rfl := Option.some.inj h
         exact ⟨rfl, h3.below⟩
      ·refine RunsI.fb 75 false hc83 65 ?_
       refine RunsI.qd 1 66 [.c 67, .blk 0, .c 72] 2 [(1, pt b2), (93, .bool (a8 == 6))] ?_
       rcases of_cond h with ⟨hc98, h⟩ | ⟨hc98, h⟩
       ·refine RunsI.fb 93 true hc98 68 ?_
        refine RunsI.g 1 [.c 69, .c 70, .blk 0, .c 72] ?_
        refine RunsI.any 8 (by kernel_rfl) (by kernel_rfl) (by kernel_rfl) (Kp ([] : List Nat) (World.drew w1)) ?_
        have h100 := h3.drew
        generalize World.drew w1 = w99 at h100 ⊢
        have hS101 := Kp.refl ([] : List Nat) w99
        refine AnyE.u 0 95 (pu b2 7) hS101 ?_
        refine AnyE.lB 1 96 6 3 b2 7 (iA a7) [] h100 rfl hS101 rfl ?_
        obtain ⟨hc103, h⟩ := of_cond0 h
        refine AnyE.run 2 97 (.pointer (some ⟨3, 0 + (Int.toNat a7) * 1, none⟩)) (by kernel_rfl) hS101 (fun _ hk => run_idxArr (T := 169) (b := 3) (o := 0) (ix := a7) (len := 8) (s := 1) (by kernel_rfl) (by kernel_rfl) hc103) ?_
        refine AnyE.loadTab 3 98 1 9 en_3 tab_3 0 1 a7 (.string (rdD tab_3 a7)) [] (o := 0 + (Int.toNat a7) * 1 + 0) h100 rfl (by kernel_rfl) hS101 rfl rfl (fun _ => rfl) (by kernel_rfl) (by omega) hc103 (fun _ => by kernel_rfl) ?_
        refine AnyE.lB 4 99 6 126 b2 0 (.agg #[iA a0, iB a1, iB a2, iC a3, iA a4, iA a5, iA a6, iA a7, iA a8, iA a9, iA d0]) [] h100 rfl hS101 rfl ?_
        obtain ⟨t105, hg104, h⟩ := of_bind h
        refine AnyE.cl 5 100 (.string t105) 151 #[.agg #[iA a0, iB a1, iB a2, iC a3, iA a4, iA a5, iA a6, iA a7, iA a8, iA a9, iA d0]] hS101 (fun w hk => text_shown_n_151_ok K (fun _ => False) w a0 a1 a2 a3 a4 a5 a6 a7 a8 a9 d0 nF (gF (h100.atI [] rfl hk 3 rfl rfl)) (gF (h100.atI [] rfl hk 4 rfl rfl)) (gF (h100.atI [] rfl hk 5 rfl rfl)) hg104) ?_
        obtain ⟨hc106, h⟩ := of_cond0 h
        refine AnyE.ct 6 101 (rdD tab_3 a7) t105 hS101 hc106 ?_
        refine AnyE.u 7 2 (.string ((rdD tab_3 a7) ++ t105)) hS101 ?_
        refine AnyE.done (by kernel_rfl) (fun w107 hu108 => ?_)
        have h109 := h100.call hu108
        refine RunsI.l [2] [(2, .string ((rdD tab_3 a7) ++ t105))] ?_
        refine RunsI.t (.string ((rdD tab_3 a7) ++ t105)) ?_
        obtain rfl := Option.some.inj h
        exact ⟨rfl, h109.below⟩
       ·refine RunsI.fb 93 false hc98 71 ?_
        refine RunsI.g 1 [.blk 0, .c 72] ?_
        refine RunsI.q 2 73 [.c 74] 1 [(102, pu b2 7)] ?_
        refine RegI.o (OpE.lB 103 6 3 b2 7 (iA a7) h3 rfl ?_)
        refine RegI.p 1 [(104, iA (IntKind.wrap .i64 (8 * a7)))] ?_
        obtain ⟨t114, hg113, h⟩ := of_bind h
        refine RegI.o (OpE.cl 105 37 #[iA (IntKind.wrap .i64 (8 * a7)), iA 2] ((text_Hex_37_ok K _ w1  (IntKind.wrap .i64 (8 * a7)) 2 h3.old' (h3.get 3 rfl) (h3.get 4 rfl) (h3.get 5 rfl) hg113).mono ?_))
        rintro _ w110 ⟨rfl, hb111⟩
        refine ⟨_, rfl, ?_⟩
        have h112 := h3.call hb111
        obtain ⟨hc115, h⟩ := of_cond0 h
        refine RegI.o (OpE.ct 106 sd37 t114 hc115 ?_)
        refine RegI.pd 1 [(2, .string (sd37 ++ t114))] ?_
        refine RunsI.t (.string (sd37 ++ t114)) ?_
        obtain rfl := Option.some.inj h
        exact ⟨rfl, h112.below⟩
end

/-! ### (charabanc/text.shown).far (function 98) -/
section
def text_shown_far_98.post (M0 : Nat → Prop) (w0 : World) (r : ByteArray) : Ending → World → Prop := fun e w => e = .returned (.string r) ∧ Below w0.heap.size w0 w
def text_shown_far_98.f (K : Nat) (p0_0_0 : Int) (p0_0_1 : Int) (p0_0_2 : Int) (p0_0_3 : Int) (p0_0_4 : Int) (p0_0_5 : Int) (p0_1 : Int) (p0_2 : Int) (p0_3 : Int) (p0_4 : Int) (p0_5 : Int) : Option ByteArray := Let (fun (t8 : Bool) => cond t8 (Let (fun (t16 : Bool) => cond t16 (cond (inR (IntKind.wrap .i64 (p0_2 - 4)) 4) (cond (mayCat (⟨#[111, 117, 116]⟩ : ByteArray).size (rdD tab_4 (IntKind.wrap .i64 (p0_2 - 4))).size) (some ((⟨#[111, 117, 116]⟩ : ByteArray) ++ (rdD tab_4 (IntKind.wrap .i64 (p0_2 - 4))))) none) none) (cond (inR p0_3 4) (cond (inR (IntKind.wrap .i64 (p0_2 - 4)) 4) (cond (mayCat (rdD tab_5 p0_3).size (rdD tab_4 (IntKind.wrap .i64 (p0_2 - 4))).size) (some ((rdD tab_5 p0_3) ++ (rdD tab_4 (IntKind.wrap .i64 (p0_2 - 4))))) none) none) none)) (fun j19 => cond (p0_3 == 3) (j19 (decide (p0_2 < 6))) (j19 false))) (cond (p0_1 != 1) (some (⟨#[110, 111, 112, 42]⟩ : ByteArray)) (cond (inR p0_2 8) (cond (p0_3 == 0) (cond (p0_2 == 6) (cond (mayCat (⟨#[105, 110, 32]⟩ : ByteArray).size (⟨#[102]⟩ : ByteArray).size) (cond (mayCat ((⟨#[105, 110, 32]⟩ : ByteArray) ++ (⟨#[102]⟩ : ByteArray)).size (⟨#[44, 40, 99, 41]⟩ : ByteArray).size) (some (((⟨#[105, 110, 32]⟩ : ByteArray) ++ (⟨#[102]⟩ : ByteArray)) ++ (⟨#[44, 40, 99, 41]⟩ : ByteArray))) none) none) (cond (mayCat (⟨#[105, 110, 32]⟩ : ByteArray).size (rdD tab_6 p0_2).size) (cond (mayCat ((⟨#[105, 110, 32]⟩ : ByteArray) ++ (rdD tab_6 p0_2)).size (⟨#[44, 40, 99, 41]⟩ : ByteArray).size) (some (((⟨#[105, 110, 32]⟩ : ByteArray) ++ (rdD tab_6 p0_2)) ++ (⟨#[44, 40, 99, 41]⟩ : ByteArray))) none) none)) (cond (p0_3 == 1) (cond (p0_2 == 6) (cond (mayCat (⟨#[111, 117, 116, 32, 40, 99, 41, 44]⟩ : ByteArray).size (⟨#[48]⟩ : ByteArray).size) (some ((⟨#[111, 117, 116, 32, 40, 99, 41, 44]⟩ : ByteArray) ++ (⟨#[48]⟩ : ByteArray))) none) (cond (mayCat (⟨#[111, 117, 116, 32, 40, 99, 41, 44]⟩ : ByteArray).size (rdD tab_6 p0_2).size) (some ((⟨#[111, 117, 116, 32, 40, 99, 41, 44]⟩ : ByteArray) ++ (rdD tab_6 p0_2))) none)) (cond (p0_3 == 2) (cond (inR p0_5 2) (cond (inR p0_4 5) (cond (mayCat (rdD ([(⟨#[115, 98, 99, 32, 104, 108, 44]⟩ : ByteArray), (⟨#[97, 100, 99, 32, 104, 108, 44]⟩ : ByteArray)] : List ByteArray) p0_5).size (rdD tab_7 p0_4).size) (some ((rdD ([(⟨#[115, 98, 99, 32, 104, 108, 44]⟩ : ByteArray), (⟨#[97, 100, 99, 32, 104, 108, 44]⟩ : ByteArray)] : List ByteArray) p0_5) ++ (rdD tab_7 p0_4))) none) none) none) (cond (p0_3 == 3) (cond (p0_5 == 1) (cond (inR p0_4 5) (cond (mayCat (⟨#[108, 100, 32]⟩ : ByteArray).size (rdD tab_7 p0_4).size) (cond (mayCat ((⟨#[108, 100, 32]⟩ : ByteArray) ++ (rdD tab_7 p0_4)).size (⟨#[44, 40]⟩ : ByteArray).size) ((text_shown_nn_148.f K p0_0_0 p0_0_1 p0_0_2 p0_0_3 p0_0_4 p0_0_5 p0_1 p0_2 p0_3 p0_4 p0_5).bind fun t68 => cond (mayCat (((⟨#[108, 100, 32]⟩ : ByteArray) ++ (rdD tab_7 p0_4)) ++ (⟨#[44, 40]⟩ : ByteArray)).size t68.size) (cond (mayCat ((((⟨#[108, 100, 32]⟩ : ByteArray) ++ (rdD tab_7 p0_4)) ++ (⟨#[44, 40]⟩ : ByteArray)) ++ t68).size (⟨#[41]⟩ : ByteArray).size) (some (((((⟨#[108, 100, 32]⟩ : ByteArray) ++ (rdD tab_7 p0_4)) ++ (⟨#[44, 40]⟩ : ByteArray)) ++ t68) ++ (⟨#[41]⟩ : ByteArray))) none) none) none) none) none) ((text_shown_nn_148.f K p0_0_0 p0_0_1 p0_0_2 p0_0_3 p0_0_4 p0_0_5 p0_1 p0_2 p0_3 p0_4 p0_5).bind fun t79 => cond (mayCat (⟨#[108, 100, 32, 40]⟩ : ByteArray).size t79.size) (cond (mayCat ((⟨#[108, 100, 32, 40]⟩ : ByteArray) ++ t79).size (⟨#[41, 44]⟩ : ByteArray).size) (cond (inR p0_4 5) (cond (mayCat (((⟨#[108, 100, 32, 40]⟩ : ByteArray) ++ t79) ++ (⟨#[41, 44]⟩ : ByteArray)).size (rdD tab_7 p0_4).size) (some ((((⟨#[108, 100, 32, 40]⟩ : ByteArray) ++ t79) ++ (⟨#[41, 44]⟩ : ByteArray)) ++ (rdD tab_7 p0_4))) none) none) none) none)) (cond (p0_3 == 4) (some (⟨#[110, 101, 103]⟩ : ByteArray)) (cond (p0_3 == 5) (cond (p0_2 == 1) (some (⟨#[114, 101, 116, 105]⟩ : ByteArray)) (some (⟨#[114, 101, 116, 110]⟩ : ByteArray))) (cond (p0_3 == 6) (cond (inR (band .i64 p0_2 3) 4) (some (rdD tab_8 (band .i64 p0_2 3))) none) (some (rdD tab_9 p0_2))))))))) none))) (fun j11 => cond (p0_1 == 2) (cond (decide (p0_3 < 4)) (j11 (decide (p0_2 > 3))) (j11 false)) (j11 false))
theorem text_shown_far_98_ok (K : Nat) (M0 : Nat → Prop) (w0 : World) (a0 : Int) (a1 : Int) (a2 : Int) (a3 : Int) (a4 : Int) (a5 : Int) (a6 : Int) (a7 : Int) (a8 : Int) (a9 : Int) (d0 : Int) (ho : ∀ b, M0 b → b < w0.heap.size) (hG4 : (gl 4 (tab_4.flatMap en_4)).ok w0 M0) (hG5 : (gl 5 (tab_5.flatMap en_5)).ok w0 M0) (hG6 : (gl 6 (tab_6.flatMap en_6)).ok w0 M0) (hG7 : (gl 7 (tab_7.flatMap en_7)).ok w0 M0) (hG8 : (gl 8 (tab_8.flatMap en_8)).ok w0 M0) (hG9 : (gl 9 (tab_9.flatMap en_9)).ok w0 M0) (hG12 : (gl 12 (tab_12.flatMap en_12)).ok w0 M0) (hG15 : (gl 15 (tab_15.flatMap en_15)).ok w0 M0) (hG16 : (gl 16 (tab_16.flatMap en_16)).ok w0 M0) {r : ByteArray} (h : text_shown_far_98.f K a0 a1 a2 a3 a4 a5 a6 a7 a8 a9 d0 = some r) :
  Calls Tryz.prog 98 #[.agg #[iA a0, iB a1, iB a2, iC a3, iA a4, iA a5, iA a6, iA a7, iA a8, iA a9, iA d0]] w0 (text_shown_far_98.post M0 w0 r) := by
 unfold text_shown_far_98.f at h
 have h0 : Holds M0 w0 w0 [] := Holds.start ho
 have h0g4 := h0.add (gl 4 (tab_4.flatMap en_4)) rfl ⟨hG4.1, fun hm => hG4.2.1 (hm.elim id (fun hm => absurd hm (by simp [mines, sl, gl, cel]))), hG4.2.2⟩
 have h0g5 := h0g4.add (gl 5 (tab_5.flatMap en_5)) rfl ⟨hG5.1, fun hm => hG5.2.1 (hm.elim id (fun hm => absurd hm (by simp [mines, sl, gl, cel]))), hG5.2.2⟩
 have h0g6 := h0g5.add (gl 6 (tab_6.flatMap en_6)) rfl ⟨hG6.1, fun hm => hG6.2.1 (hm.elim id (fun hm => absurd hm (by simp [mines, sl, gl, cel]))), hG6.2.2⟩
 have h0g7 := h0g6.add (gl 7 (tab_7.flatMap en_7)) rfl ⟨hG7.1, fun hm => hG7.2.1 (hm.elim id (fun hm => absurd hm (by simp [mines, sl, gl, cel]))), hG7.2.2⟩
 have h0g8 := h0g7.add (gl 8 (tab_8.flatMap en_8)) rfl ⟨hG8.1, fun hm => hG8.2.1 (hm.elim id (fun hm => absurd hm (by simp [mines, sl, gl, cel]))), hG8.2.2⟩
 have h0g9 := h0g8.add (gl 9 (tab_9.flatMap en_9)) rfl ⟨hG9.1, fun hm => hG9.2.1 (hm.elim id (fun hm => absurd hm (by simp [mines, sl, gl, cel]))), hG9.2.2⟩
 have h0g12 := h0g9.add (gl 12 (tab_12.flatMap en_12)) rfl ⟨hG12.1, fun hm => hG12.2.1 (hm.elim id (fun hm => absurd hm (by simp [mines, sl, gl, cel]))), hG12.2.2⟩
 have h0g15 := h0g12.add (gl 15 (tab_15.flatMap en_15)) rfl ⟨hG15.1, fun hm => hG15.2.1 (hm.elim id (fun hm => absurd hm (by simp [mines, sl, gl, cel]))), hG15.2.2⟩
 have h0g16 := h0g15.add (gl 16 (tab_16.flatMap en_16)) rfl ⟨hG16.1, fun hm => hG16.2.1 (hm.elim id (fun hm => absurd hm (by simp [mines, sl, gl, cel]))), hG16.2.2⟩
 have h0 : Holds M0 w0 w0 [gl 4 (tab_4.flatMap en_4), gl 5 (tab_5.flatMap en_5), gl 6 (tab_6.flatMap en_6), gl 7 (tab_7.flatMap en_7), gl 8 (tab_8.flatMap en_8), gl 9 (tab_9.flatMap en_9), gl 12 (tab_12.flatMap en_12), gl 15 (tab_15.flatMap en_15), gl 16 (tab_16.flatMap en_16)] := h0g16
 refine calls_of F98 rfl [.agg #[iA a0, iB a1, iB a2, iC a3, iA a4, iA a5, iA a6, iA a7, iA a8, iA a9, iA d0]] (by kernel_rfl) ?_
 refine RunsI.g 1 [.c 1, .c 2] ?_
 refine RunsI.r ?_
 refine RegI.o (OpE.bx 1 126 [iA a0, iB a1, iB a2, iC a3, iA a4, iA a5, iA a6, iA a7, iA a8, iA a9, iA d0] h0 ?_)
 intro w1 b2 h3 hb4 hn5
 refine RegI.p 1 [(1, pt b2)] ?_
 refine RegI.q 3 5 [.c 6, .blk 0, .c 25] 1 [(1, pt b2), (5, pu b2 6)] ?_
 refine RegI.o (OpE.lB 6 9 3 b2 6 (iA a6) h3 rfl ?_)
 refine RegI.p 2 [(1, pt b2), (8, .bool (a6 == 2))] ?_
 obtain ⟨j11, hJ12, h⟩ := of_let h
 have hj13 : ∀ (t8 : Bool) (w10 : World), j11 t8 = some r → Holds M0 w0 w10 [box b2 126 [iA a0, iB a1, iB a2, iC a3, iA a4, iA a5, iA a6, iA a7, iA a8, iA a9, iA d0], gl 4 (tab_4.flatMap en_4), gl 5 (tab_5.flatMap en_5), gl 6 (tab_6.flatMap en_6), gl 7 (tab_7.flatMap en_7), gl 8 (tab_8.flatMap en_8), gl 9 (tab_9.flatMap en_9), gl 12 (tab_12.flatMap en_12), gl 15 (tab_15.flatMap en_15), gl 16 (tab_16.flatMap en_16)] → RegI F98 5 [.c 6, .blk 0, .c 25] 14 [(1, pt b2), (4, .bool t8)] w10 (text_shown_far_98.post M0 w0 r) := by
  intro t8 w10 h h9
  rw [hJ12] at h
  clear hJ12
  dsimp only at h
  refine RegI.d ?_
  rcases of_cond h with ⟨hc14, h⟩ | ⟨hc14, h⟩
  ·refine RunsI.fb 4 true hc14 7 ?_
   refine RunsI.q 2 9 [.c 10, .c 15, .blk 0, .c 25] 1 [(1, pt b2), (18, pu b2 8)] ?_
   refine RegI.o (OpE.lB 19 0 3 b2 8 (iA a8) h9 rfl ?_)
   refine RegI.p 2 [(1, pt b2), (21, .bool (a8 == 3))] ?_
   obtain ⟨j19, hJ20, h⟩ := of_let h
   have hj21 : ∀ (t16 : Bool) (w18 : World), j19 t16 = some r → Holds M0 w0 w18 [box b2 126 [iA a0, iB a1, iB a2, iC a3, iA a4, iA a5, iA a6, iA a7, iA a8, iA a9, iA d0], gl 4 (tab_4.flatMap en_4), gl 5 (tab_5.flatMap en_5), gl 6 (tab_6.flatMap en_6), gl 7 (tab_7.flatMap en_7), gl 8 (tab_8.flatMap en_8), gl 9 (tab_9.flatMap en_9), gl 12 (tab_12.flatMap en_12), gl 15 (tab_15.flatMap en_15), gl 16 (tab_16.flatMap en_16)] → RegI F98 9 [.c 10, .c 15, .blk 0, .c 25] 8 [(1, pt b2), (25, .bool t16)] w18 (text_shown_far_98.post M0 w0 r) := by
    intro t16 w18 h h17
    rw [hJ20] at h
    clear hJ20
    dsimp only at h
    refine RegI.d ?_
    rcases of_cond h with ⟨hc22, h⟩ | ⟨hc22, h⟩
    ·refine RunsI.fb 25 true hc22 11 ?_
     refine RunsI.q 1 12 [.c 13, .c 15, .blk 0, .c 25] 1 [(26, pu b2 7)] ?_
     refine RegI.o (OpE.lB 27 0 3 b2 7 (iA a7) h17 rfl ?_)
     refine RegI.p 1 [(28, iA (IntKind.wrap .i64 (a7 - 4)))] ?_
     obtain ⟨hc23, h⟩ := of_cond0 h
     refine RegI.o (OpE.run 29 (by kernel_rfl) (run_idxArr (T := 170) (b := 4) (o := 0) (ix := (IntKind.wrap .i64 (a7 - 4))) (len := 4) (s := 1) (by kernel_rfl) (by kernel_rfl) hc23) ?_)
     refine RegI.o (OpE.loadTab 30 1 9 en_4 tab_4 0 1 (IntKind.wrap .i64 (a7 - 4)) (.string (rdD tab_4 (IntKind.wrap .i64 (a7 - 4)))) (o := 0 + (Int.toNat (IntKind.wrap .i64 (a7 - 4))) * 1 + 0) h17 (by kernel_rfl) rfl (fun _ => rfl) (by kernel_rfl) (by omega) hc23 (fun _ => by kernel_rfl) ?_)
     obtain ⟨hc24, h⟩ := of_cond0 h
     refine RegI.o (OpE.ct 31 sd38 (rdD tab_4 (IntKind.wrap .i64 (a7 - 4))) hc24 ?_)
     refine RegI.pd 1 [(2, .string (sd38 ++ (rdD tab_4 (IntKind.wrap .i64 (a7 - 4)))))] ?_
     refine RunsI.t (.string (sd38 ++ (rdD tab_4 (IntKind.wrap .i64 (a7 - 4))))) ?_
     obtain rfl := Option.some.inj h
     exact ⟨rfl, h17.below⟩
    ·refine RunsI.fb 25 false hc22 14 ?_
     refine RunsI.g 1 [.c 15, .blk 0, .c 25] ?_
     refine RunsI.g 1 [.c 16, .c 17, .blk 0, .c 25] ?_
     refine RunsI.any 11 (by kernel_rfl) (by kernel_rfl) (by kernel_rfl) (Kp ([] : List Nat) (World.drew w18)) ?_
     have h26 := h17.drew
     generalize World.drew w18 = w25 at h26 ⊢
     have hS27 := Kp.refl ([] : List Nat) w25
     refine AnyE.u 0 32 (pu b2 8) hS27 ?_
     refine AnyE.lB 1 33 0 3 b2 8 (iA a8) [] h26 rfl hS27 rfl ?_
     obtain ⟨hc29, h⟩ := of_cond0 h
     refine AnyE.run 2 34 (.pointer (some ⟨5, 0 + (Int.toNat a8) * 1, none⟩)) (by kernel_rfl) hS27 (fun _ hk => run_idxArr (T := 170) (b := 5) (o := 0) (ix := a8) (len := 4) (s := 1) (by kernel_rfl) (by kernel_rfl) hc29) ?_
     refine AnyE.loadTab 3 35 2 9 en_5 tab_5 0 1 a8 (.string (rdD tab_5 a8)) [] (o := 0 + (Int.toNat a8) * 1 + 0) h26 rfl (by kernel_rfl) hS27 rfl rfl (fun _ => rfl) (by kernel_rfl) (by omega) hc29 (fun _ => by kernel_rfl) ?_
     refine AnyE.u 4 36 (pu b2 7) hS27 ?_
     refine AnyE.lB 5 37 0 3 b2 7 (iA a7) [] h26 rfl hS27 rfl ?_
     refine AnyE.u 6 38 (iA (IntKind.wrap .i64 (a7 - 4))) hS27 ?_
     obtain ⟨hc30, h⟩ := of_cond0 h
     refine AnyE.run 7 39 (.pointer (some ⟨4, 0 + (Int.toNat (IntKind.wrap .i64 (a7 - 4))) * 1, none⟩)) (by kernel_rfl) hS27 (fun _ hk => run_idxArr (T := 170) (b := 4) (o := 0) (ix := (IntKind.wrap .i64 (a7 - 4))) (len := 4) (s := 1) (by kernel_rfl) (by kernel_rfl) hc30) ?_
     refine AnyE.loadTab 8 40 1 9 en_4 tab_4 0 1 (IntKind.wrap .i64 (a7 - 4)) (.string (rdD tab_4 (IntKind.wrap .i64 (a7 - 4)))) [] (o := 0 + (Int.toNat (IntKind.wrap .i64 (a7 - 4))) * 1 + 0) h26 rfl (by kernel_rfl) hS27 rfl rfl (fun _ => rfl) (by kernel_rfl) (by omega) hc30 (fun _ => by kernel_rfl) ?_
     obtain ⟨hc31, h⟩ := of_cond0 h
     refine AnyE.ct 9 41 (rdD tab_5 a8) (rdD tab_4 (IntKind.wrap .i64 (a7 - 4))) hS27 hc31 ?_
     refine AnyE.u 10 2 (.string ((rdD tab_5 a8) ++ (rdD tab_4 (IntKind.wrap .i64 (a7 - 4))))) hS27 ?_
     refine AnyE.done (by kernel_rfl) (fun w32 hu33 => ?_)
     have h34 := h26.call hu33
     refine RunsI.l [2] [(2, .string ((rdD tab_5 a8) ++ (rdD tab_4 (IntKind.wrap .i64 (a7 - 4)))))] ?_
     refine RunsI.t (.string ((rdD tab_5 a8) ++ (rdD tab_4 (IntKind.wrap .i64 (a7 - 4))))) ?_
     obtain rfl := Option.some.inj h
     exact ⟨rfl, h34.below⟩
   clear hJ20
   rcases of_cond h with ⟨hc15, h⟩ | ⟨hc15, h⟩
   ·refine RegI.f 21 true hc15 ?_
    refine RegI.p 1 [(1, pt b2), (21, .bool true), (22, pu b2 7)] ?_
    refine RegI.o (OpE.lB 23 0 3 b2 7 (iA a7) h9 rfl ?_)
    refine RegI.p 2 [(1, pt b2), (25, .bool (decide (a7 < 6)))] ?_
    refine RegI.l [1, 25] [(1, pt b2), (25, .bool (decide (a7 < 6)))] ?_
    exact hj21 (decide (a7 < 6)) w10 h (h9.pick [0, 1, 2, 3, 4, 5, 6, 7, 8, 9] (by decide))
   ·refine RegI.f 21 false hc15 ?_
    refine RegI.p 4 [(1, pt b2), (25, .bool false)] ?_
    refine RegI.l [1, 25] [(1, pt b2), (25, .bool false)] ?_
    exact hj21 false w10 h (h9.pick [0, 1, 2, 3, 4, 5, 6, 7, 8, 9] (by decide))
  ·refine RunsI.fb 4 false hc14 18 ?_
   refine RunsI.q 1 19 [.c 20, .blk 0, .c 25] 1 [(1, pt b2), (43, pu b2 6)] ?_
   refine RegI.o (OpE.lB 44 0 3 b2 6 (iA a6) h9 rfl ?_)
   refine RegI.pd 2 [(1, pt b2), (42, .bool (a6 != 1))] ?_
   rcases of_cond h with ⟨hc35, h⟩ | ⟨hc35, h⟩
   ·refine RunsI.fb 42 true hc35 21 ?_
    refine RunsI.qd 1 22 [.c 23, .blk 0, .c 25] 1 [(2, .string (⟨#[110, 111, 112, 42]⟩ : ByteArray))] ?_
    refine RunsI.t (.string (⟨#[110, 111, 112, 42]⟩ : ByteArray)) ?_
    obtain rfl := Option.some.inj h
    exact ⟨rfl, h9.below⟩
   ·refine RunsI.fb 42 false hc35 24 ?_
    refine RunsI.g 1 [.blk 0, .c 25] ?_
    refine RunsI.q 2 26 [.c 27] 1 [(1, pt b2), (46, pu b2 7)] ?_
    refine RegI.o (OpE.lB 47 0 3 b2 7 (iA a7) h9 rfl ?_)
    obtain ⟨hc36, h⟩ := of_cond0 h
    refine RegI.o (OpE.run 48 (by kernel_rfl) (run_idxArr (T := 169) (b := 6) (o := 0) (ix := a7) (len := 8) (s := 1) (by kernel_rfl) (by kernel_rfl) hc36) ?_)
    refine RegI.o (OpE.loadTab 49 3 9 en_6 tab_6 0 1 a7 (.string (rdD tab_6 a7)) (o := 0 + (Int.toNat a7) * 1 + 0) h9 (by kernel_rfl) rfl (fun _ => rfl) (by kernel_rfl) (by omega) hc36 (fun _ => by kernel_rfl) ?_)
    refine RegI.p 1 [(1, pt b2), (3, .string (rdD tab_6 a7))] ?_
    refine RegI.q 2 29 [.c 30, .c 102] 1 [(1, pt b2), (3, .string (rdD tab_6 a7)), (50, pu b2 8)] ?_
    refine RegI.o (OpE.lB 51 0 3 b2 8 (iA a8) h9 rfl ?_)
    refine RegI.q 2 32 [.c 33, .blk 1, .c 102] 2 [(1, pt b2), (3, .string (rdD tab_6 a7)), (51, iA a8), (52, .bool (a8 == 0))] ?_
    refine RegI.d ?_
    rcases of_cond h with ⟨hc37, h⟩ | ⟨hc37, h⟩
    ·refine RunsI.fb 52 true hc37 34 ?_
     refine RunsI.q 2 36 [.c 37, .c 40, .blk 1, .c 102] 1 [(3, .string (rdD tab_6 a7)), (54, pu b2 7)] ?_
     refine RegI.o (OpE.lB 55 0 3 b2 7 (iA a7) h9 rfl ?_)
     refine RegI.pd 1 [(3, .string (rdD tab_6 a7)), (56, .bool (a7 == 6))] ?_
     rcases of_cond h with ⟨hc38, h⟩ | ⟨hc38, h⟩
     ·refine RunsI.fb 56 true hc38 38 ?_
      refine RunsI.r ?_
      refine RegI.p 1 [(3, .string sd27)] ?_
      refine RegI.q 1 41 [.c 42, .blk 1, .c 102] 1 [(57, .string sd27)] ?_
      obtain ⟨hc39, h⟩ := of_cond0 h
      refine RegI.o (OpE.ct 58 sd16 sd27 hc39 ?_)
      obtain ⟨hc40, h⟩ := of_cond0 h
      refine RegI.o (OpE.ct 59 (sd16 ++ sd27) sd28 hc40 ?_)
      refine RegI.pd 1 [(2, .string ((sd16 ++ sd27) ++ sd28))] ?_
      refine RunsI.t (.string ((sd16 ++ sd27) ++ sd28)) ?_
      obtain rfl := Option.some.inj h
      exact ⟨rfl, h9.below⟩
     ·refine RunsI.fb 56 false hc38 39 ?_
      refine RunsI.g 1 [.c 40, .blk 1, .c 102] ?_
      refine RunsI.q 1 41 [.c 42, .blk 1, .c 102] 1 [(57, .string (rdD tab_6 a7))] ?_
      obtain ⟨hc41, h⟩ := of_cond0 h
      refine RegI.o (OpE.ct 58 sd16 (rdD tab_6 a7) hc41 ?_)
      obtain ⟨hc42, h⟩ := of_cond0 h
      refine RegI.o (OpE.ct 59 (sd16 ++ (rdD tab_6 a7)) sd28 hc42 ?_)
      refine RegI.pd 1 [(2, .string ((sd16 ++ (rdD tab_6 a7)) ++ sd28))] ?_
      refine RunsI.t (.string ((sd16 ++ (rdD tab_6 a7)) ++ sd28)) ?_
      obtain rfl := Option.some.inj h
      exact ⟨rfl, h9.below⟩
    ·refine RunsI.fb 52 false hc37 43 ?_
     refine RunsI.qd 1 44 [.c 45, .blk 1, .c 102] 2 [(1, pt b2), (3, .string (rdD tab_6 a7)), (51, iA a8), (60, .bool (a8 == 1))] ?_
     rcases of_cond h with ⟨hc43, h⟩ | ⟨hc43, h⟩
     ·refine RunsI.fb 60 true hc43 46 ?_
      refine RunsI.q 2 48 [.c 49, .c 52, .blk 1, .c 102] 1 [(3, .string (rdD tab_6 a7)), (62, pu b2 7)] ?_
      refine RegI.o (OpE.lB 63 0 3 b2 7 (iA a7) h9 rfl ?_)
      refine RegI.pd 1 [(3, .string (rdD tab_6 a7)), (64, .bool (a7 == 6))] ?_
      rcases of_cond h with ⟨hc44, h⟩ | ⟨hc44, h⟩
      ·refine RunsI.fb 64 true hc44 50 ?_
       refine RunsI.r ?_
       refine RegI.p 1 [(3, .string sd32)] ?_
       refine RegI.q 1 53 [.c 54, .blk 1, .c 102] 1 [(65, .string sd32)] ?_
       obtain ⟨hc45, h⟩ := of_cond0 h
       refine RegI.o (OpE.ct 66 sd29 sd32 hc45 ?_)
       refine RegI.pd 1 [(2, .string (sd29 ++ sd32))] ?_
       refine RunsI.t (.string (sd29 ++ sd32)) ?_
       obtain rfl := Option.some.inj h
       exact ⟨rfl, h9.below⟩
      ·refine RunsI.fb 64 false hc44 51 ?_
       refine RunsI.g 1 [.c 52, .blk 1, .c 102] ?_
       refine RunsI.q 1 53 [.c 54, .blk 1, .c 102] 1 [(65, .string (rdD tab_6 a7))] ?_
       obtain ⟨hc46, h⟩ := of_cond0 h
       refine RegI.o (OpE.ct 66 sd29 (rdD tab_6 a7) hc46 ?_)
       refine RegI.pd 1 [(2, .string (sd29 ++ (rdD tab_6 a7)))] ?_
       refine RunsI.t (.string (sd29 ++ (rdD tab_6 a7))) ?_
       obtain rfl := Option.some.inj h
       exact ⟨rfl, h9.below⟩
     ·refine RunsI.fb 60 false hc43 55 ?_
      refine RunsI.qd 1 56 [.c 57, .blk 1, .c 102] 2 [(1, pt b2), (51, iA a8), (67, .bool (a8 == 2))] ?_
      rcases of_cond h with ⟨hc47, h⟩ | ⟨hc47, h⟩
      ·refine RunsI.fb 67 true hc47 58 ?_
       refine RunsI.g 1 [.c 59, .c 60, .blk 1, .c 102] ?_
       refine RunsI.any 10 (by kernel_rfl) (by kernel_rfl) (by kernel_rfl) (Kp ([] : List Nat) (World.drew w10)) ?_
       have h49 := h9.drew
       generalize World.drew w10 = w48 at h49 ⊢
       have hS50 := Kp.refl ([] : List Nat) w48
       refine AnyE.u 0 69 (.agg #[.string sd17, .string sd18]) hS50 ?_
       refine AnyE.u 1 70 (pu b2 10) hS50 ?_
       refine AnyE.lB 2 71 0 3 b2 10 (iA d0) [] h49 rfl hS50 rfl ?_
       obtain ⟨hc52, h⟩ := of_cond0 h
       refine AnyE.run 3 72 (.string (rdD ([sd17, sd18] : List ByteArray) d0)) (by kernel_rfl) hS50 (fun _ hk => run_indexTab (T0 := 172) (en := (fun (x : ByteArray) => ([.string x] : List Value))) (tab := ([sd17, sd18] : List ByteArray)) (len := 2) (sz := 1) (j := d0) (v := .string (rdD ([sd17, sd18] : List ByteArray) d0)) (fun _ => rfl) (by kernel_rfl) (by kernel_rfl) rfl hc52 (fun _ => by kernel_rfl)) ?_
       refine AnyE.u 4 73 (pu b2 9) hS50 ?_
       refine AnyE.lB 5 74 0 3 b2 9 (iA a9) [] h49 rfl hS50 rfl ?_
       obtain ⟨hc53, h⟩ := of_cond0 h
       refine AnyE.run 6 75 (.pointer (some ⟨7, 0 + (Int.toNat a9) * 1, none⟩)) (by kernel_rfl) hS50 (fun _ hk => run_idxArr (T := 173) (b := 7) (o := 0) (ix := a9) (len := 5) (s := 1) (by kernel_rfl) (by kernel_rfl) hc53) ?_
       refine AnyE.loadTab 7 76 4 9 en_7 tab_7 0 1 a9 (.string (rdD tab_7 a9)) [] (o := 0 + (Int.toNat a9) * 1 + 0) h49 rfl (by kernel_rfl) hS50 rfl rfl (fun _ => rfl) (by kernel_rfl) (by omega) hc53 (fun _ => by kernel_rfl) ?_
       obtain ⟨hc54, h⟩ := of_cond0 h
       refine AnyE.ct 8 77 (rdD ([sd17, sd18] : List ByteArray) d0) (rdD tab_7 a9) hS50 hc54 ?_
       refine AnyE.u 9 2 (.string ((rdD ([sd17, sd18] : List ByteArray) d0) ++ (rdD tab_7 a9))) hS50 ?_
       refine AnyE.done (by kernel_rfl) (fun w55 hu56 => ?_)
       have h57 := h49.call hu56
       refine RunsI.l [2] [(2, .string ((rdD ([sd17, sd18] : List ByteArray) d0) ++ (rdD tab_7 a9)))] ?_
       refine RunsI.t (.string ((rdD ([sd17, sd18] : List ByteArray) d0) ++ (rdD tab_7 a9))) ?_
       obtain rfl := Option.some.inj h
       exact ⟨rfl, h57.below⟩
      ·refine RunsI.fb 67 false hc47 61 ?_
       refine RunsI.qd 1 62 [.c 63, .blk 1, .c 102] 2 [(1, pt b2), (51, iA a8), (78, .bool (a8 == 3))] ?_
       rcases of_cond h with ⟨hc58, h⟩ | ⟨hc58, h⟩
       ·refine RunsI.fb 78 true hc58 64 ?_
        refine RunsI.q 2 66 [.c 67, .c 72, .blk 1, .c 102] 1 [(1, pt b2), (80, pu b2 10)] ?_
        refine RegI.o (OpE.lB 81 0 3 b2 10 (iA d0) h9 rfl ?_)
        refine RegI.pd 1 [(1, pt b2), (82, .bool (d0 == 1))] ?_
        rcases of_cond h with ⟨hc59, h⟩ | ⟨hc59, h⟩
        ·refine RunsI.fb 82 true hc59 68 ?_
         refine RunsI.g 1 [.c 69, .c 70, .c 72, .blk 1, .c 102] ?_
         refine RunsI.any 11 (by kernel_rfl) (by kernel_rfl) (by kernel_rfl) (Kp ([] : List Nat) (World.drew w10)) ?_
         have h61 := h9.drew
         generalize World.drew w10 = w60 at h61 ⊢
         have hS62 := Kp.refl ([] : List Nat) w60
         refine AnyE.u 0 83 (pu b2 9) hS62 ?_
         refine AnyE.lB 1 84 0 3 b2 9 (iA a9) [] h61 rfl hS62 rfl ?_
         obtain ⟨hc64, h⟩ := of_cond0 h
         refine AnyE.run 2 85 (.pointer (some ⟨7, 0 + (Int.toNat a9) * 1, none⟩)) (by kernel_rfl) hS62 (fun _ hk => run_idxArr (T := 173) (b := 7) (o := 0) (ix := a9) (len := 5) (s := 1) (by kernel_rfl) (by kernel_rfl) hc64) ?_
         refine AnyE.loadTab 3 86 4 9 en_7 tab_7 0 1 a9 (.string (rdD tab_7 a9)) [] (o := 0 + (Int.toNat a9) * 1 + 0) h61 rfl (by kernel_rfl) hS62 rfl rfl (fun _ => rfl) (by kernel_rfl) (by omega) hc64 (fun _ => by kernel_rfl) ?_
         obtain ⟨hc65, h⟩ := of_cond0 h
         refine AnyE.ct 4 87 sd1 (rdD tab_7 a9) hS62 hc65 ?_
         obtain ⟨hc66, h⟩ := of_cond0 h
         refine AnyE.ct 5 88 (sd1 ++ (rdD tab_7 a9)) sd30 hS62 hc66 ?_
         refine AnyE.lB 6 89 0 126 b2 0 (.agg #[iA a0, iB a1, iB a2, iC a3, iA a4, iA a5, iA a6, iA a7, iA a8, iA a9, iA d0]) [] h61 rfl hS62 rfl ?_
         obtain ⟨t68, hg67, h⟩ := of_bind h
         refine AnyE.cl 7 90 (.string t68) 148 #[.agg #[iA a0, iB a1, iB a2, iC a3, iA a4, iA a5, iA a6, iA a7, iA a8, iA a9, iA d0]] hS62 (fun w hk => text_shown_nn_148_ok K (fun _ => False) w a0 a1 a2 a3 a4 a5 a6 a7 a8 a9 d0 nF (gF (h61.atI [] rfl hk 7 rfl rfl)) (gF (h61.atI [] rfl hk 8 rfl rfl)) (gF (h61.atI [] rfl hk 9 rfl rfl)) hg67) ?_
         obtain ⟨hc69, h⟩ := of_cond0 h
         refine AnyE.ct 8 91 ((sd1 ++ (rdD tab_7 a9)) ++ sd30) t68 hS62 hc69 ?_
         obtain ⟨hc70, h⟩ := of_cond0 h
         refine AnyE.ct 9 92 (((sd1 ++ (rdD tab_7 a9)) ++ sd30) ++ t68) sd2 hS62 hc70 ?_
         refine AnyE.u 10 2 (.string ((((sd1 ++ (rdD tab_7 a9)) ++ sd30) ++ t68) ++ sd2)) hS62 ?_
         refine AnyE.done (by kernel_rfl) (fun w71 hu72 => ?_)
         have h73 := h61.call hu72
         refine RunsI.l [2] [(2, .string ((((sd1 ++ (rdD tab_7 a9)) ++ sd30) ++ t68) ++ sd2))] ?_
         refine RunsI.t (.string ((((sd1 ++ (rdD tab_7 a9)) ++ sd30) ++ t68) ++ sd2)) ?_
         obtain rfl := Option.some.inj h
         exact ⟨rfl, h73.below⟩
        ·refine RunsI.fb 82 false hc59 71 ?_
         refine RunsI.g 1 [.c 72, .blk 1, .c 102] ?_
         refine RunsI.g 1 [.c 73, .c 74, .blk 1, .c 102] ?_
         refine RunsI.any 10 (by kernel_rfl) (by kernel_rfl) (by kernel_rfl) (Kp ([] : List Nat) (World.drew w10)) ?_
         have h75 := h9.drew
         generalize World.drew w10 = w74 at h75 ⊢
         have hS76 := Kp.refl ([] : List Nat) w74
         refine AnyE.lB 0 93 0 126 b2 0 (.agg #[iA a0, iB a1, iB a2, iC a3, iA a4, iA a5, iA a6, iA a7, iA a8, iA a9, iA d0]) [] h75 rfl hS76 rfl ?_
         obtain ⟨t79, hg78, h⟩ := of_bind h
         refine AnyE.cl 1 94 (.string t79) 148 #[.agg #[iA a0, iB a1, iB a2, iC a3, iA a4, iA a5, iA a6, iA a7, iA a8, iA a9, iA d0]] hS76 (fun w hk => text_shown_nn_148_ok K (fun _ => False) w a0 a1 a2 a3 a4 a5 a6 a7 a8 a9 d0 nF (gF (h75.atI [] rfl hk 7 rfl rfl)) (gF (h75.atI [] rfl hk 8 rfl rfl)) (gF (h75.atI [] rfl hk 9 rfl rfl)) hg78) ?_
         obtain ⟨hc80, h⟩ := of_cond0 h
         refine AnyE.ct 2 95 sd31 t79 hS76 hc80 ?_
         obtain ⟨hc81, h⟩ := of_cond0 h
         refine AnyE.ct 3 96 (sd31 ++ t79) sd33 hS76 hc81 ?_
         refine AnyE.u 4 97 (pu b2 9) hS76 ?_
         refine AnyE.lB 5 98 0 3 b2 9 (iA a9) [] h75 rfl hS76 rfl ?_
         obtain ⟨hc82, h⟩ := of_cond0 h
         refine AnyE.run 6 99 (.pointer (some ⟨7, 0 + (Int.toNat a9) * 1, none⟩)) (by kernel_rfl) hS76 (fun _ hk => run_idxArr (T := 173) (b := 7) (o := 0) (ix := a9) (len := 5) (s := 1) (by kernel_rfl) (by kernel_rfl) hc82) ?_
         refine AnyE.loadTab 7 100 4 9 en_7 tab_7 0 1 a9 (.string (rdD tab_7 a9)) [] (o := 0 + (Int.toNat a9) * 1 + 0) h75 rfl (by kernel_rfl) hS76 rfl rfl (fun _ => rfl) (by kernel_rfl) (by omega) hc82 (fun _ => by kernel_rfl) ?_
         obtain ⟨hc83, h⟩ := of_cond0 h
         refine AnyE.ct 8 101 ((sd31 ++ t79) ++ sd33) (rdD tab_7 a9) hS76 hc83 ?_
         refine AnyE.u 9 2 (.string (((sd31 ++ t79) ++ sd33) ++ (rdD tab_7 a9))) hS76 ?_
         refine AnyE.done (by kernel_rfl) (fun w84 hu85 => ?_)
         have h86 := h75.call hu85
         refine RunsI.l [2] [(2, .string (((sd31 ++ t79) ++ sd33) ++ (rdD tab_7 a9)))] ?_
         refine RunsI.t (.string (((sd31 ++ t79) ++ sd33) ++ (rdD tab_7 a9))) ?_
         obtain rfl := Option.some.inj h
         exact ⟨rfl, h86.below⟩
       ·refine RunsI.fb 78 false hc58 75 ?_
        refine RunsI.qd 1 76 [.c 77, .blk 1, .c 102] 2 [(1, pt b2), (51, iA a8), (102, .bool (a8 == 4))] ?_
        rcases of_cond h with ⟨hc87, h⟩ | ⟨hc87, h⟩
        ·refine RunsI.fb 102 true hc87 78 ?_
         refine RunsI.qd 1 79 [.c 80, .blk 1, .c 102] 1 [(2, .string (⟨#[110, 101, 103]⟩ : ByteArray))] ?_
         refine RunsI.t (.string (⟨#[110, 101, 103]⟩ : ByteArray)) ?_
         obtain rfl := Option.some.inj h
         exact ⟨rfl, h9.below⟩
        ·refine RunsI.fb 102 false hc87 81 ?_
         refine RunsI.qd 1 82 [.c 83, .blk 1, .c 102] 2 [(1, pt b2), (51, iA a8), (104, .bool (a8 == 5))] ?_
         rcases of_cond h with ⟨hc88, h⟩ | ⟨hc88, h⟩
         ·refine RunsI.fb 104 true hc88 84 ?_
          refine RunsI.q 2 86 [.c 87, .c 92, .blk 1, .c 102] 1 [(106, pu b2 7)] ?_
          refine RegI.o (OpE.lB 107 0 3 b2 7 (iA a7) h9 rfl ?_)
          refine RegI.pd 1 [(108, .bool (a7 == 1))] ?_
          rcases of_cond h with ⟨hc89, h⟩ | ⟨hc89, h⟩
          ·refine RunsI.fb 108 true hc89 88 ?_
           refine RunsI.qd 1 89 [.c 90, .c 92, .blk 1, .c 102] 1 [(2, .string (⟨#[114, 101, 116, 105]⟩ : ByteArray))] ?_
           refine RunsI.t (.string (⟨#[114, 101, 116, 105]⟩ : ByteArray)) ?_
           obtain rfl := Option.some.inj h
           exact ⟨rfl, h9.below⟩
          ·refine RunsI.fb 108 false hc89 91 ?_
           refine RunsI.g 1 [.c 92, .blk 1, .c 102] ?_
           refine RunsI.qd 1 93 [.c 94, .blk 1, .c 102] 1 [(2, .string (⟨#[114, 101, 116, 110]⟩ : ByteArray))] ?_
           refine RunsI.t (.string (⟨#[114, 101, 116, 110]⟩ : ByteArray)) ?_
           obtain rfl := Option.some.inj h
           exact ⟨rfl, h9.below⟩
         ·refine RunsI.fb 104 false hc88 95 ?_
          refine RunsI.qd 1 96 [.c 97, .blk 1, .c 102] 2 [(1, pt b2), (109, .bool (a8 == 6))] ?_
          rcases of_cond h with ⟨hc90, h⟩ | ⟨hc90, h⟩
          ·refine RunsI.fb 109 true hc90 98 ?_
           refine RunsI.q 1 99 [.c 100, .blk 1, .c 102] 1 [(111, pu b2 7)] ?_
           refine RegI.o (OpE.lB 112 0 3 b2 7 (iA a7) h9 rfl ?_)
           refine RegI.p 1 [(113, iA (band .i64 a7 3))] ?_
           obtain ⟨hc91, h⟩ := of_cond0 h
           refine RegI.o (OpE.run 114 (by kernel_rfl) (run_idxArr (T := 170) (b := 8) (o := 0) (ix := (band .i64 a7 3)) (len := 4) (s := 1) (by kernel_rfl) (by kernel_rfl) hc91) ?_)
           refine RegI.o (OpE.loadTab 115 5 9 en_8 tab_8 0 1 (band .i64 a7 3) (.string (rdD tab_8 (band .i64 a7 3))) (o := 0 + (Int.toNat (band .i64 a7 3)) * 1 + 0) h9 (by kernel_rfl) rfl (fun _ => rfl) (by kernel_rfl) (by omega) hc91 (fun _ => by kernel_rfl) ?_)
           refine RegI.pd 1 [(2, .string (rdD tab_8 (band .i64 a7 3)))] ?_
           refine RunsI.t (.string (rdD tab_8 (band .i64 a7 3))) ?_
           obtain rfl := Option.some.inj h
           exact ⟨rfl, h9.below⟩
          ·refine RunsI.fb 109 false hc90 101 ?_
           refine RunsI.g 1 [.blk 1, .c 102] ?_
           refine RunsI.q 2 103 [.c 104] 1 [(116, pu b2 7)] ?_
           refine RegI.o (OpE.lB 117 0 3 b2 7 (iA a7) h9 rfl ?_)
           refine RegI.o (OpE.run 118 (by kernel_rfl) (run_idxArr (T := 169) (b := 9) (o := 0) (ix := a7) (len := 8) (s := 1) (by kernel_rfl) (by kernel_rfl) hc36) ?_)
           refine RegI.o (OpE.loadTab 119 6 9 en_9 tab_9 0 1 a7 (.string (rdD tab_9 a7)) (o := 0 + (Int.toNat a7) * 1 + 0) h9 (by kernel_rfl) rfl (fun _ => rfl) (by kernel_rfl) (by omega) hc36 (fun _ => by kernel_rfl) ?_)
           refine RegI.pd 1 [(2, .string (rdD tab_9 a7))] ?_
           refine RunsI.t (.string (rdD tab_9 a7)) ?_
           obtain rfl := Option.some.inj h
           exact ⟨rfl, h9.below⟩
 clear hJ12
 rcases of_cond h with ⟨hc6, h⟩ | ⟨hc6, h⟩
 ·refine RegI.f 8 true hc6 ?_
  refine RegI.p 1 [(1, pt b2), (8, .bool true), (9, pu b2 8)] ?_
  refine RegI.o (OpE.lB 10 9 3 b2 8 (iA a8) h3 rfl ?_)
  refine RegI.p 3 [(1, pt b2), (13, .bool (decide (a8 < 4)))] ?_
  rcases of_cond h with ⟨hc7, h⟩ | ⟨hc7, h⟩
  ·refine RegI.f 13 true hc7 ?_
   refine RegI.p 1 [(1, pt b2), (13, .bool true), (14, pu b2 7)] ?_
   refine RegI.o (OpE.lB 15 9 3 b2 7 (iA a7) h3 rfl ?_)
   refine RegI.p 3 [(1, pt b2), (4, .bool (decide (a7 > 3)))] ?_
   refine RegI.l [1, 4] [(1, pt b2), (4, .bool (decide (a7 > 3)))] ?_
   exact hj13 (decide (a7 > 3)) w1 h (h3.pick [9, 0, 1, 2, 3, 4, 5, 6, 7, 8] (by decide))
  ·refine RegI.f 13 false hc7 ?_
   refine RegI.p 5 [(1, pt b2), (4, .bool false)] ?_
   refine RegI.l [1, 4] [(1, pt b2), (4, .bool false)] ?_
   exact hj13 false w1 h (h3.pick [9, 0, 1, 2, 3, 4, 5, 6, 7, 8] (by decide))
 ·refine RegI.f 8 false hc6 ?_
  refine RegI.p 10 [(1, pt b2), (4, .bool false)] ?_
  refine RegI.l [1, 4] [(1, pt b2), (4, .bool false)] ?_
  exact hj13 false w1 h (h3.pick [9, 0, 1, 2, 3, 4, 5, 6, 7, 8] (by decide))
end

/-! ### (charabanc/text.shown).bit (function 99) -/
section
def text_shown_bit_99.post (M0 : Nat → Prop) (w0 : World) (r : ByteArray) : Ending → World → Prop := fun e w => e = .returned (.string r) ∧ Below w0.heap.size w0 w
def text_shown_bit_99.f (K : Nat) (p0_0_0 : Int) (p0_0_1 : Int) (p0_0_2 : Int) (p0_0_3 : Int) (p0_0_4 : Int) (p0_0_5 : Int) (p0_1 : Int) (p0_2 : Int) (p0_3 : Int) (p0_4 : Int) (p0_5 : Int) : Option ByteArray := cond (inR p0_3 8) (Let (fun (t23 : ByteArray) => cond (p0_1 == 0) (cond (inR p0_2 8) (cond (mayCat (rdD tab_10 p0_2).size t23.size) (some ((rdD tab_10 p0_2) ++ t23)) none) none) (cond (inR p0_1 4) ((strconv_Itoa_153.f K p0_2).bind fun t38 => cond (mayCat (rdD tab_11 p0_1).size t38.size) (cond (mayCat ((rdD tab_11 p0_1) ++ t38).size (⟨#[44]⟩ : ByteArray).size) (cond (mayCat (((rdD tab_11 p0_1) ++ t38) ++ (⟨#[44]⟩ : ByteArray)).size t23.size) (some ((((rdD tab_11 p0_1) ++ t38) ++ (⟨#[44]⟩ : ByteArray)) ++ t23)) none) none) none) none)) (fun j26 => cond (p0_0_0 != 1) ((text_Index_152.f K p0_0_0 p0_0_2).bind fun t12 => Let (fun (t14 : Bool) => cond t14 (cond (mayCat (⟨#[44]⟩ : ByteArray).size (rdD tab_6 p0_3).size) (cond (mayCat t12.size ((⟨#[44]⟩ : ByteArray) ++ (rdD tab_6 p0_3)).size) (j26 (t12 ++ ((⟨#[44]⟩ : ByteArray) ++ (rdD tab_6 p0_3)))) none) none) (j26 t12)) (fun j17 => cond (p0_1 != 1) (j17 (p0_3 != 6)) (j17 false))) (j26 (rdD tab_6 p0_3)))) none
theorem text_shown_bit_99_ok (K : Nat) (M0 : Nat → Prop) (w0 : World) (a0 : Int) (a1 : Int) (a2 : Int) (a3 : Int) (a4 : Int) (a5 : Int) (a6 : Int) (a7 : Int) (a8 : Int) (a9 : Int) (d0 : Int) (ho : ∀ b, M0 b → b < w0.heap.size) (hG6 : (gl 6 (tab_6.flatMap en_6)).ok w0 M0) (hG10 : (gl 10 (tab_10.flatMap en_10)).ok w0 M0) (hG11 : (gl 11 (tab_11.flatMap en_11)).ok w0 M0) (hG12 : (gl 12 (tab_12.flatMap en_12)).ok w0 M0) {r : ByteArray} (h : text_shown_bit_99.f K a0 a1 a2 a3 a4 a5 a6 a7 a8 a9 d0 = some r) :
  Calls Tryz.prog 99 #[.agg #[iA a0, iB a1, iB a2, iC a3, iA a4, iA a5, iA a6, iA a7, iA a8, iA a9, iA d0]] w0 (text_shown_bit_99.post M0 w0 r) := by
 unfold text_shown_bit_99.f at h
 have h0 : Holds M0 w0 w0 [] := Holds.start ho
 have h0g6 := h0.add (gl 6 (tab_6.flatMap en_6)) rfl ⟨hG6.1, fun hm => hG6.2.1 (hm.elim id (fun hm => absurd hm (by simp [mines, sl, gl, cel]))), hG6.2.2⟩
 have h0g10 := h0g6.add (gl 10 (tab_10.flatMap en_10)) rfl ⟨hG10.1, fun hm => hG10.2.1 (hm.elim id (fun hm => absurd hm (by simp [mines, sl, gl, cel]))), hG10.2.2⟩
 have h0g11 := h0g10.add (gl 11 (tab_11.flatMap en_11)) rfl ⟨hG11.1, fun hm => hG11.2.1 (hm.elim id (fun hm => absurd hm (by simp [mines, sl, gl, cel]))), hG11.2.2⟩
 have h0g12 := h0g11.add (gl 12 (tab_12.flatMap en_12)) rfl ⟨hG12.1, fun hm => hG12.2.1 (hm.elim id (fun hm => absurd hm (by simp [mines, sl, gl, cel]))), hG12.2.2⟩
 have h0 : Holds M0 w0 w0 [gl 6 (tab_6.flatMap en_6), gl 10 (tab_10.flatMap en_10), gl 11 (tab_11.flatMap en_11), gl 12 (tab_12.flatMap en_12)] := h0g12
 refine calls_of F99 rfl [.agg #[iA a0, iB a1, iB a2, iC a3, iA a4, iA a5, iA a6, iA a7, iA a8, iA a9, iA d0]] (by kernel_rfl) ?_
 refine RunsI.g 1 [.c 1, .c 2] ?_
 refine RunsI.r ?_
 refine RegI.o (OpE.bx 1 126 [iA a0, iB a1, iB a2, iC a3, iA a4, iA a5, iA a6, iA a7, iA a8, iA a9, iA d0] h0 ?_)
 intro w1 b2 h3 hb4 hn5
 refine RegI.p 1 [(1, pt b2)] ?_
 refine RegI.q 1 3 [.c 4] 1 [(1, pt b2), (4, pu b2 8)] ?_
 refine RegI.o (OpE.lB 5 4 3 b2 8 (iA a8) h3 rfl ?_)
 obtain ⟨hc6, h⟩ := of_cond0 h
 refine RegI.o (OpE.run 6 (by kernel_rfl) (run_idxArr (T := 169) (b := 6) (o := 0) (ix := a8) (len := 8) (s := 1) (by kernel_rfl) (by kernel_rfl) hc6) ?_)
 refine RegI.o (OpE.loadTab 7 0 9 en_6 tab_6 0 1 a8 (.string (rdD tab_6 a8)) (o := 0 + (Int.toNat a8) * 1 + 0) h3 (by kernel_rfl) rfl (fun _ => rfl) (by kernel_rfl) (by omega) hc6 (fun _ => by kernel_rfl) ?_)
 refine RegI.p 1 [(1, pt b2), (3, .string (rdD tab_6 a8))] ?_
 refine RegI.q 2 6 [.c 7, .c 16] 2 [(1, pt b2), (3, .string (rdD tab_6 a8)), (9, pt b2)] ?_
 refine RegI.o (OpE.lB 10 4 3 b2 0 (iA a0) h3 rfl ?_)
 refine RegI.pd 1 [(1, pt b2), (3, .string (rdD tab_6 a8)), (11, .bool (a0 != 1))] ?_
 obtain ⟨j26, hJ27, h⟩ := of_let h
 have hj28 : ∀ (t23 : ByteArray) (w25 : World), j26 t23 = some r → Holds M0 w0 w25 [box b2 126 [iA a0, iB a1, iB a2, iC a3, iA a4, iA a5, iA a6, iA a7, iA a8, iA a9, iA d0], gl 6 (tab_6.flatMap en_6), gl 10 (tab_10.flatMap en_10), gl 11 (tab_11.flatMap en_11), gl 12 (tab_12.flatMap en_12)] → RunsI F99 [.c 16] [(1, pt b2), (3, .string t23)] w25 (text_shown_bit_99.post M0 w0 r) := by
  intro t23 w25 h h24
  rw [hJ27] at h
  clear hJ27
  dsimp only at h
  refine RunsI.q 2 18 [.c 19, .c 24] 1 [(1, pt b2), (3, .string t23), (34, pu b2 6)] ?_
  refine RegI.o (OpE.lB 35 0 3 b2 6 (iA a6) h24 rfl ?_)
  refine RegI.pd 1 [(1, pt b2), (3, .string t23), (36, .bool (a6 == 0))] ?_
  rcases of_cond h with ⟨hc29, h⟩ | ⟨hc29, h⟩
  ·refine RunsI.fb 36 true hc29 20 ?_
   refine RunsI.q 1 21 [.c 22, .c 24] 1 [(3, .string t23), (37, pu b2 7)] ?_
   refine RegI.o (OpE.lB 38 0 3 b2 7 (iA a7) h24 rfl ?_)
   obtain ⟨hc30, h⟩ := of_cond0 h
   refine RegI.o (OpE.run 39 (by kernel_rfl) (run_idxArr (T := 169) (b := 10) (o := 0) (ix := a7) (len := 8) (s := 1) (by kernel_rfl) (by kernel_rfl) hc30) ?_)
   refine RegI.o (OpE.loadTab 40 2 9 en_10 tab_10 0 1 a7 (.string (rdD tab_10 a7)) (o := 0 + (Int.toNat a7) * 1 + 0) h24 (by kernel_rfl) rfl (fun _ => rfl) (by kernel_rfl) (by omega) hc30 (fun _ => by kernel_rfl) ?_)
   refine RegI.p 1 [(40, .string (rdD tab_10 a7)), (41, .string t23)] ?_
   obtain ⟨hc31, h⟩ := of_cond0 h
   refine RegI.o (OpE.ct 42 (rdD tab_10 a7) t23 hc31 ?_)
   refine RegI.pd 1 [(2, .string ((rdD tab_10 a7) ++ t23))] ?_
   refine RunsI.t (.string ((rdD tab_10 a7) ++ t23)) ?_
   obtain rfl := Option.some.inj h
   exact ⟨rfl, h24.below⟩
  ·refine RunsI.fb 36 false hc29 23 ?_
   refine RunsI.g 1 [.c 24] ?_
   refine RunsI.g 1 [.c 25, .c 26] ?_
   refine RunsI.any 12 (by kernel_rfl) (by kernel_rfl) (by kernel_rfl) (Kp ([] : List Nat) (World.drew w25)) ?_
   have h33 := h24.drew
   generalize World.drew w25 = w32 at h33 ⊢
   have hS34 := Kp.refl ([] : List Nat) w32
   refine AnyE.u 0 43 (pu b2 6) hS34 ?_
   refine AnyE.lB 1 44 0 3 b2 6 (iA a6) [] h33 rfl hS34 rfl ?_
   obtain ⟨hc36, h⟩ := of_cond0 h
   refine AnyE.run 2 45 (.pointer (some ⟨11, 0 + (Int.toNat a6) * 1, none⟩)) (by kernel_rfl) hS34 (fun _ hk => run_idxArr (T := 170) (b := 11) (o := 0) (ix := a6) (len := 4) (s := 1) (by kernel_rfl) (by kernel_rfl) hc36) ?_
   refine AnyE.loadTab 3 46 3 9 en_11 tab_11 0 1 a6 (.string (rdD tab_11 a6)) [] (o := 0 + (Int.toNat a6) * 1 + 0) h33 rfl (by kernel_rfl) hS34 rfl rfl (fun _ => rfl) (by kernel_rfl) (by omega) hc36 (fun _ => by kernel_rfl) ?_
   refine AnyE.u 4 47 (pu b2 7) hS34 ?_
   refine AnyE.lB 5 48 0 3 b2 7 (iA a7) [] h33 rfl hS34 rfl ?_
   obtain ⟨t38, hg37, h⟩ := of_bind h
   refine AnyE.cl 6 49 (.string t38) 153 #[iA a7] hS34 (fun w hk => strconv_Itoa_153_ok K (fun _ => False) w a7 nF (gF (h33.atI [] rfl hk 4 rfl rfl)) hg37) ?_
   obtain ⟨hc39, h⟩ := of_cond0 h
   refine AnyE.ct 7 50 (rdD tab_11 a6) t38 hS34 hc39 ?_
   obtain ⟨hc40, h⟩ := of_cond0 h
   refine AnyE.ct 8 51 ((rdD tab_11 a6) ++ t38) sd0 hS34 hc40 ?_
   refine AnyE.u 9 52 (.string t23) hS34 ?_
   obtain ⟨hc41, h⟩ := of_cond0 h
   refine AnyE.ct 10 53 (((rdD tab_11 a6) ++ t38) ++ sd0) t23 hS34 hc41 ?_
   refine AnyE.u 11 2 (.string ((((rdD tab_11 a6) ++ t38) ++ sd0) ++ t23)) hS34 ?_
   refine AnyE.done (by kernel_rfl) (fun w42 hu43 => ?_)
   have h44 := h33.call hu43
   refine RunsI.l [2] [(2, .string ((((rdD tab_11 a6) ++ t38) ++ sd0) ++ t23))] ?_
   refine RunsI.t (.string ((((rdD tab_11 a6) ++ t38) ++ sd0) ++ t23)) ?_
   obtain rfl := Option.some.inj h
   exact ⟨rfl, h44.below⟩
 clear hJ27
 rcases of_cond h with ⟨hc7, h⟩ | ⟨hc7, h⟩
 ·refine RunsI.fb 11 true hc7 8 ?_
  refine RunsI.q 1 9 [.c 10, .c 16] 2 [(1, pt b2), (13, pt b2)] ?_
  refine RegI.o (OpE.lB 14 4 3 b2 0 (iA a0) h3 rfl ?_)
  refine RegI.p 2 [(1, pt b2), (14, iA a0), (16, pu b2 2)] ?_
  refine RegI.o (OpE.lB 17 4 5 b2 2 (iB a2) h3 rfl ?_)
  obtain ⟨t12, hg11, h⟩ := of_bind h
  refine RegI.o (OpE.cl 18 152 #[iA a0, iB a2] ((text_Index_152_ok K _ w1  a0 a2 h3.old' (h3.get 3 rfl) hg11).mono ?_))
  rintro _ w8 ⟨rfl, hb9⟩
  refine ⟨_, rfl, ?_⟩
  have h10 := h3.call hb9
  refine RegI.p 1 [(1, pt b2), (3, .string t12)] ?_
  refine RegI.q 1 11 [.c 12, .c 16] 1 [(1, pt b2), (3, .string t12), (19, pu b2 6)] ?_
  refine RegI.o (OpE.lB 20 4 3 b2 6 (iA a6) h10 rfl ?_)
  refine RegI.p 2 [(1, pt b2), (3, .string t12), (22, .bool (a6 != 1))] ?_
  obtain ⟨j17, hJ18, h⟩ := of_let h
  have hj19 : ∀ (t14 : Bool) (w16 : World), j17 t14 = some r → Holds M0 w0 w16 [box b2 126 [iA a0, iB a1, iB a2, iC a3, iA a4, iA a5, iA a6, iA a7, iA a8, iA a9, iA d0], gl 6 (tab_6.flatMap en_6), gl 10 (tab_10.flatMap en_10), gl 11 (tab_11.flatMap en_11), gl 12 (tab_12.flatMap en_12)] → RegI F99 11 [.c 12, .c 16] 8 [(1, pt b2), (3, .string t12), (26, .bool t14)] w16 (text_shown_bit_99.post M0 w0 r) := by
   intro t14 w16 h h15
   rw [hJ18] at h
   clear hJ18
   dsimp only at h
   refine RegI.d ?_
   rcases of_cond h with ⟨hc20, h⟩ | ⟨hc20, h⟩
   ·refine RunsI.fb 26 true hc20 13 ?_
    refine RunsI.r ?_
    refine RegI.p 2 [(1, pt b2), (27, .string t12), (28, pu b2 8)] ?_
    refine RegI.o (OpE.lB 29 0 3 b2 8 (iA a8) h15 rfl ?_)
    refine RegI.o (OpE.run 30 (by kernel_rfl) (run_idxArr (T := 169) (b := 6) (o := 0) (ix := a8) (len := 8) (s := 1) (by kernel_rfl) (by kernel_rfl) hc6) ?_)
    refine RegI.o (OpE.loadTab 31 1 9 en_6 tab_6 0 1 a8 (.string (rdD tab_6 a8)) (o := 0 + (Int.toNat a8) * 1 + 0) h15 (by kernel_rfl) rfl (fun _ => rfl) (by kernel_rfl) (by omega) hc6 (fun _ => by kernel_rfl) ?_)
    obtain ⟨hc21, h⟩ := of_cond0 h
    refine RegI.o (OpE.ct 32 sd0 (rdD tab_6 a8) hc21 ?_)
    obtain ⟨hc22, h⟩ := of_cond0 h
    refine RegI.o (OpE.ct 33 t12 (sd0 ++ (rdD tab_6 a8)) hc22 ?_)
    refine RegI.pd 1 [(1, pt b2), (3, .string (t12 ++ (sd0 ++ (rdD tab_6 a8))))] ?_
    refine RunsI.l [1, 3] [(1, pt b2), (3, .string (t12 ++ (sd0 ++ (rdD tab_6 a8))))] ?_
    exact hj28 (t12 ++ (sd0 ++ (rdD tab_6 a8))) w16 h (h15.pick [0, 1, 2, 3, 4] (by decide))
   ·refine RunsI.fb 26 false hc20 14 ?_
    refine RunsI.g 1 [.c 16] ?_
    refine RunsI.l [1, 3] [(1, pt b2), (3, .string t12)] ?_
    exact hj28 t12 w16 h (h15.pick [0, 1, 2, 3, 4] (by decide))
  clear hJ18
  rcases of_cond h with ⟨hc13, h⟩ | ⟨hc13, h⟩
  ·refine RegI.f 22 true hc13 ?_
   refine RegI.p 1 [(1, pt b2), (3, .string t12), (22, .bool true), (23, pu b2 8)] ?_
   refine RegI.o (OpE.lB 24 4 3 b2 8 (iA a8) h10 rfl ?_)
   refine RegI.p 2 [(1, pt b2), (3, .string t12), (26, .bool (a8 != 6))] ?_
   refine RegI.l [1, 3, 26] [(1, pt b2), (3, .string t12), (26, .bool (a8 != 6))] ?_
   exact hj19 (a8 != 6) w8 h (h10.pick [4, 0, 1, 2, 3] (by decide))
  ·refine RegI.f 22 false hc13 ?_
   refine RegI.p 4 [(1, pt b2), (3, .string t12), (26, .bool false)] ?_
   refine RegI.l [1, 3, 26] [(1, pt b2), (3, .string t12), (26, .bool false)] ?_
   exact hj19 false w8 h (h10.pick [4, 0, 1, 2, 3] (by decide))
 ·refine RunsI.fb 11 false hc7 15 ?_
  refine RunsI.g 1 [.c 16] ?_
  refine RunsI.l [1, 3] [(1, pt b2), (3, .string (rdD tab_6 a8))] ?_
  exact hj28 (rdD tab_6 a8) w1 h (h3.pick [4, 0, 1, 2, 3] (by decide))
end

/-! ### charabanc/text.Show (function 63) -/
section
def text_Show_63.post (M0 : Nat → Prop) (w0 : World) (r : ByteArray) : Ending → World → Prop := fun e w => e = .returned (.string r) ∧ Below w0.heap.size w0 w
def text_Show_63.f (K : Nat) (p0_0 : Int) (p0_1 : Int) (p0_2 : Int) (p0_3 : Int) (p0_4 : Int) (p0_5 : Int) : Option ByteArray := (text_of_93.f K p0_0 p0_1 p0_2 p0_3 p0_4 p0_5).bind fun yt10 => Let (fun (t39 : Bool) => cond t39 (cond (yt10.2.2.2.2.2.2.1 == 0) ((text_shown_low_94.f K yt10.1 yt10.2.1 yt10.2.2.1 yt10.2.2.2.1 yt10.2.2.2.2.1 yt10.2.2.2.2.2.1 yt10.2.2.2.2.2.2.1 yt10.2.2.2.2.2.2.2.1 yt10.2.2.2.2.2.2.2.2.1 yt10.2.2.2.2.2.2.2.2.2.1 yt10.2.2.2.2.2.2.2.2.2.2).bind fun t51 => some t51) (cond (yt10.2.2.2.2.2.2.1 == 1) ((text_shown_moves_95.f K yt10.1 yt10.2.1 yt10.2.2.1 yt10.2.2.2.1 yt10.2.2.2.2.1 yt10.2.2.2.2.2.1 yt10.2.2.2.2.2.2.1 yt10.2.2.2.2.2.2.2.1 yt10.2.2.2.2.2.2.2.2.1 yt10.2.2.2.2.2.2.2.2.2.1 yt10.2.2.2.2.2.2.2.2.2.2).bind fun t57 => some t57) (cond (yt10.2.2.2.2.2.2.1 == 2) ((text_shown_sums_96.f K yt10.1 yt10.2.1 yt10.2.2.1 yt10.2.2.2.1 yt10.2.2.2.2.1 yt10.2.2.2.2.2.1 yt10.2.2.2.2.2.2.1 yt10.2.2.2.2.2.2.2.1 yt10.2.2.2.2.2.2.2.2.1 yt10.2.2.2.2.2.2.2.2.2.1 yt10.2.2.2.2.2.2.2.2.2.2).bind fun t63 => some t63) (cond (yt10.2.2.2.2.2.2.1 == 3) ((text_shown_high_97.f K yt10.1 yt10.2.1 yt10.2.2.1 yt10.2.2.2.1 yt10.2.2.2.2.1 yt10.2.2.2.2.2.1 yt10.2.2.2.2.2.2.1 yt10.2.2.2.2.2.2.2.1 yt10.2.2.2.2.2.2.2.2.1 yt10.2.2.2.2.2.2.2.2.2.1 yt10.2.2.2.2.2.2.2.2.2.2).bind fun t69 => some t69) none)))) (cond (p0_0 == 2) ((text_shown_far_98.f K yt10.1 yt10.2.1 yt10.2.2.1 yt10.2.2.2.1 yt10.2.2.2.2.1 yt10.2.2.2.2.2.1 yt10.2.2.2.2.2.2.1 yt10.2.2.2.2.2.2.2.1 yt10.2.2.2.2.2.2.2.2.1 yt10.2.2.2.2.2.2.2.2.2.1 yt10.2.2.2.2.2.2.2.2.2.2).bind fun t75 => some t75) (Let (fun (t78 : Bool) => cond t78 ((text_shown_bit_99.f K yt10.1 yt10.2.1 yt10.2.2.1 yt10.2.2.2.1 yt10.2.2.2.2.1 yt10.2.2.2.2.2.1 yt10.2.2.2.2.2.2.1 yt10.2.2.2.2.2.2.2.1 yt10.2.2.2.2.2.2.2.2.1 yt10.2.2.2.2.2.2.2.2.2.1 yt10.2.2.2.2.2.2.2.2.2.2).bind fun t89 => some t89) (some (⟨#[63]⟩ : ByteArray))) (fun j81 => cond (p0_0 == 1) (j81 true) (cond (p0_0 == 5) (j81 true) (j81 (p0_0 == 6))))))) (fun j42 => cond (p0_0 == 0) (j42 true) (cond (p0_0 == 3) (j42 true) (j42 (p0_0 == 4))))
theorem text_Show_63_ok (K : Nat) (M0 : Nat → Prop) (w0 : World) (d1 : Int) (a6 : Int) (a7 : Int) (a8 : Int) (a9 : Int) (d0 : Int) (ho : ∀ b, M0 b → b < w0.heap.size) (hG1 : (gl 1 (tab_1.flatMap en_1)).ok w0 M0) (hG2 : (gl 2 (tab_2.flatMap en_2)).ok w0 M0) (hG3 : (gl 3 (tab_3.flatMap en_3)).ok w0 M0) (hG4 : (gl 4 (tab_4.flatMap en_4)).ok w0 M0) (hG5 : (gl 5 (tab_5.flatMap en_5)).ok w0 M0) (hG6 : (gl 6 (tab_6.flatMap en_6)).ok w0 M0) (hG7 : (gl 7 (tab_7.flatMap en_7)).ok w0 M0) (hG8 : (gl 8 (tab_8.flatMap en_8)).ok w0 M0) (hG9 : (gl 9 (tab_9.flatMap en_9)).ok w0 M0) (hG10 : (gl 10 (tab_10.flatMap en_10)).ok w0 M0) (hG11 : (gl 11 (tab_11.flatMap en_11)).ok w0 M0) (hG12 : (gl 12 (tab_12.flatMap en_12)).ok w0 M0) (hG15 : (gl 15 (tab_15.flatMap en_15)).ok w0 M0) (hG16 : (gl 16 (tab_16.flatMap en_16)).ok w0 M0) {r : ByteArray} (h : text_Show_63.f K d1 a6 a7 a8 a9 d0 = some r) :
  Calls Tryz.prog 63 #[.agg #[iA d1, iB a6, iB a7, iC a8, iA a9, iA d0]] w0 (text_Show_63.post M0 w0 r) := by
 unfold text_Show_63.f at h
 have h0 : Holds M0 w0 w0 [] := Holds.start ho
 have h0g1 := h0.add (gl 1 (tab_1.flatMap en_1)) rfl ⟨hG1.1, fun hm => hG1.2.1 (hm.elim id (fun hm => absurd hm (by simp [mines, sl, gl, cel]))), hG1.2.2⟩
 have h0g2 := h0g1.add (gl 2 (tab_2.flatMap en_2)) rfl ⟨hG2.1, fun hm => hG2.2.1 (hm.elim id (fun hm => absurd hm (by simp [mines, sl, gl, cel]))), hG2.2.2⟩
 have h0g3 := h0g2.add (gl 3 (tab_3.flatMap en_3)) rfl ⟨hG3.1, fun hm => hG3.2.1 (hm.elim id (fun hm => absurd hm (by simp [mines, sl, gl, cel]))), hG3.2.2⟩
 have h0g4 := h0g3.add (gl 4 (tab_4.flatMap en_4)) rfl ⟨hG4.1, fun hm => hG4.2.1 (hm.elim id (fun hm => absurd hm (by simp [mines, sl, gl, cel]))), hG4.2.2⟩
 have h0g5 := h0g4.add (gl 5 (tab_5.flatMap en_5)) rfl ⟨hG5.1, fun hm => hG5.2.1 (hm.elim id (fun hm => absurd hm (by simp [mines, sl, gl, cel]))), hG5.2.2⟩
 have h0g6 := h0g5.add (gl 6 (tab_6.flatMap en_6)) rfl ⟨hG6.1, fun hm => hG6.2.1 (hm.elim id (fun hm => absurd hm (by simp [mines, sl, gl, cel]))), hG6.2.2⟩
 have h0g7 := h0g6.add (gl 7 (tab_7.flatMap en_7)) rfl ⟨hG7.1, fun hm => hG7.2.1 (hm.elim id (fun hm => absurd hm (by simp [mines, sl, gl, cel]))), hG7.2.2⟩
 have h0g8 := h0g7.add (gl 8 (tab_8.flatMap en_8)) rfl ⟨hG8.1, fun hm => hG8.2.1 (hm.elim id (fun hm => absurd hm (by simp [mines, sl, gl, cel]))), hG8.2.2⟩
 have h0g9 := h0g8.add (gl 9 (tab_9.flatMap en_9)) rfl ⟨hG9.1, fun hm => hG9.2.1 (hm.elim id (fun hm => absurd hm (by simp [mines, sl, gl, cel]))), hG9.2.2⟩
 have h0g10 := h0g9.add (gl 10 (tab_10.flatMap en_10)) rfl ⟨hG10.1, fun hm => hG10.2.1 (hm.elim id (fun hm => absurd hm (by simp [mines, sl, gl, cel]))), hG10.2.2⟩
 have h0g11 := h0g10.add (gl 11 (tab_11.flatMap en_11)) rfl ⟨hG11.1, fun hm => hG11.2.1 (hm.elim id (fun hm => absurd hm (by simp [mines, sl, gl, cel]))), hG11.2.2⟩
 have h0g12 := h0g11.add (gl 12 (tab_12.flatMap en_12)) rfl ⟨hG12.1, fun hm => hG12.2.1 (hm.elim id (fun hm => absurd hm (by simp [mines, sl, gl, cel]))), hG12.2.2⟩
 have h0g15 := h0g12.add (gl 15 (tab_15.flatMap en_15)) rfl ⟨hG15.1, fun hm => hG15.2.1 (hm.elim id (fun hm => absurd hm (by simp [mines, sl, gl, cel]))), hG15.2.2⟩
 have h0g16 := h0g15.add (gl 16 (tab_16.flatMap en_16)) rfl ⟨hG16.1, fun hm => hG16.2.1 (hm.elim id (fun hm => absurd hm (by simp [mines, sl, gl, cel]))), hG16.2.2⟩
 have h0 : Holds M0 w0 w0 [gl 1 (tab_1.flatMap en_1), gl 2 (tab_2.flatMap en_2), gl 3 (tab_3.flatMap en_3), gl 4 (tab_4.flatMap en_4), gl 5 (tab_5.flatMap en_5), gl 6 (tab_6.flatMap en_6), gl 7 (tab_7.flatMap en_7), gl 8 (tab_8.flatMap en_8), gl 9 (tab_9.flatMap en_9), gl 10 (tab_10.flatMap en_10), gl 11 (tab_11.flatMap en_11), gl 12 (tab_12.flatMap en_12), gl 15 (tab_15.flatMap en_15), gl 16 (tab_16.flatMap en_16)] := h0g16
 refine calls_of F63 rfl [.agg #[iA d1, iB a6, iB a7, iC a8, iA a9, iA d0]] (by kernel_rfl) ?_
 refine RunsI.g 1 [.c 1, .c 2] ?_
 refine RunsI.r ?_
 refine RegI.o (OpE.bx 1 25 [iA d1, iB a6, iB a7, iC a8, iA a9, iA d0] h0 ?_)
 intro w1 b2 h3 hb4 hn5
 refine RegI.pd 1 [(1, pt b2)] ?_
 refine RunsI.g 1 [.c 3, .c 4] ?_
 refine RunsI.r ?_
 refine RegI.o (OpE.lB 5 14 25 b2 0 (.agg #[iA d1, iB a6, iB a7, iC a8, iA a9, iA d0]) h3 rfl ?_)
 obtain ⟨⟨t10, t11, t12, t13, t14, t15, t16, t17, t18, t19, t20⟩, hg9, h⟩ := of_bind h
 dsimp only at h
 refine RegI.o (OpE.cl 6 93 #[.agg #[iA d1, iB a6, iB a7, iC a8, iA a9, iA d0]] ((text_of_93_ok K _ w1  d1 a6 a7 a8 a9 d0 h3.old' hg9).mono ?_))
 rintro _ w6 ⟨rfl, hb7⟩
 refine ⟨_, rfl, ?_⟩
 have h8 := h3.call hb7
 refine RegI.o (OpE.bx 3 126 [iA 0, iB 0, iB 0, iC 0, iA 0, iA 0, iA 0, iA 0, iA 0, iA 0, iA 0] h8 ?_)
 intro w21 b22 h23 hb24 hn25
 refine RegI.o (OpE.sB 15 126 b22 0 (.agg #[iA t10, iB t11, iB t12, iC t13, iA t14, iA t15, iA t16, iA t17, iA t18, iA t19, iA t20]) [iA t10, iB t11, iB t12, iC t13, iA t14, iA t15, iA t16, iA t17, iA t18, iA t19, iA t20] h23 rfl ?_)
 intro w26 h27 hk28
 refine RegI.d ?_
 refine RunsI.g 1 [.c 5, .c 6] ?_
 refine RunsI.r ?_
 refine RegI.o (OpE.lB 7 15 126 b22 0 (.agg #[iA t10, iB t11, iB t12, iC t13, iA t14, iA t15, iA t16, iA t17, iA t18, iA t19, iA t20]) h27 rfl ?_)
 refine RegI.p 1 [(1, pt b2), (3, pt b22), (8, .func (.func 94) #[.agg #[iA t10, iB t11, iB t12, iC t13, iA t14, iA t15, iA t16, iA t17, iA t18, iA t19, iA t20]] #[])] ?_
 refine RegI.o (OpE.lB 9 15 126 b22 0 (.agg #[iA t10, iB t11, iB t12, iC t13, iA t14, iA t15, iA t16, iA t17, iA t18, iA t19, iA t20]) h27 rfl ?_)
 refine RegI.p 1 [(1, pt b2), (3, pt b22), (8, .func (.func 94) #[.agg #[iA t10, iB t11, iB t12, iC t13, iA t14, iA t15, iA t16, iA t17, iA t18, iA t19, iA t20]] #[]), (10, .func (.func 95) #[.agg #[iA t10, iB t11, iB t12, iC t13, iA t14, iA t15, iA t16, iA t17, iA t18, iA t19, iA t20]] #[])] ?_
 refine RegI.o (OpE.lB 11 15 126 b22 0 (.agg #[iA t10, iB t11, iB t12, iC t13, iA t14, iA t15, iA t16, iA t17, iA t18, iA t19, iA t20]) h27 rfl ?_)
 refine RegI.p 1 [(1, pt b2), (3, pt b22), (8, .func (.func 94) #[.agg #[iA t10, iB t11, iB t12, iC t13, iA t14, iA t15, iA t16, iA t17, iA t18, iA t19, iA t20]] #[]), (10, .func (.func 95) #[.agg #[iA t10, iB t11, iB t12, iC t13, iA t14, iA t15, iA t16, iA t17, iA t18, iA t19, iA t20]] #[]), (12, .func (.func 96) #[.agg #[iA t10, iB t11, iB t12, iC t13, iA t14, iA t15, iA t16, iA t17, iA t18, iA t19, iA t20]] #[])] ?_
 refine RegI.o (OpE.lB 13 15 126 b22 0 (.agg #[iA t10, iB t11, iB t12, iC t13, iA t14, iA t15, iA t16, iA t17, iA t18, iA t19, iA t20]) h27 rfl ?_)
 refine RegI.p 2 [(1, pt b2), (3, pt b22), (15, .agg #[.func (.func 94) #[.agg #[iA t10, iB t11, iB t12, iC t13, iA t14, iA t15, iA t16, iA t17, iA t18, iA t19, iA t20]] #[], .func (.func 95) #[.agg #[iA t10, iB t11, iB t12, iC t13, iA t14, iA t15, iA t16, iA t17, iA t18, iA t19, iA t20]] #[], .func (.func 96) #[.agg #[iA t10, iB t11, iB t12, iC t13, iA t14, iA t15, iA t16, iA t17, iA t18, iA t19, iA t20]] #[], .func (.func 97) #[.agg #[iA t10, iB t11, iB t12, iC t13, iA t14, iA t15, iA t16, iA t17, iA t18, iA t19, iA t20]] #[]])] ?_
 refine RegI.o (OpE.bx 4 128 [.nilFunc, .nilFunc, .nilFunc, .nilFunc] h27 ?_)
 intro w29 b30 h31 hb32 hn33
 refine RegI.o (OpE.sB 16 128 b30 0 (.agg #[.func (.func 94) #[.agg #[iA t10, iB t11, iB t12, iC t13, iA t14, iA t15, iA t16, iA t17, iA t18, iA t19, iA t20]] #[], .func (.func 95) #[.agg #[iA t10, iB t11, iB t12, iC t13, iA t14, iA t15, iA t16, iA t17, iA t18, iA t19, iA t20]] #[], .func (.func 96) #[.agg #[iA t10, iB t11, iB t12, iC t13, iA t14, iA t15, iA t16, iA t17, iA t18, iA t19, iA t20]] #[], .func (.func 97) #[.agg #[iA t10, iB t11, iB t12, iC t13, iA t14, iA t15, iA t16, iA t17, iA t18, iA t19, iA t20]] #[]]) [.func (.func 94) #[.agg #[iA t10, iB t11, iB t12, iC t13, iA t14, iA t15, iA t16, iA t17, iA t18, iA t19, iA t20]] #[], .func (.func 95) #[.agg #[iA t10, iB t11, iB t12, iC t13, iA t14, iA t15, iA t16, iA t17, iA t18, iA t19, iA t20]] #[], .func (.func 96) #[.agg #[iA t10, iB t11, iB t12, iC t13, iA t14, iA t15, iA t16, iA t17, iA t18, iA t19, iA t20]] #[], .func (.func 97) #[.agg #[iA t10, iB t11, iB t12, iC t13, iA t14, iA t15, iA t16, iA t17, iA t18, iA t19, iA t20]] #[]] h31 rfl ?_)
 intro w34 h35 hk36
 refine RegI.q 2 8 [.c 9, .c 45] 1 [(3, pt b22), (4, pt b30), (16, pt b2)] ?_
 refine RegI.o (OpE.lB 17 14 3 b2 0 (iA d1) h35 rfl ?_)
 refine RegI.q 3 12 [.c 13, .c 20, .blk 0, .c 45] 2 [(3, pt b22), (4, pt b30), (17, iA d1), (18, .bool (d1 == 0))] ?_
 refine RegI.d ?_
 obtain ⟨j42, hJ43, h⟩ := of_let h
 have hj44 : ∀ (t39 : Bool) (w41 : World), j42 t39 = some r → Holds M0 w0 w41 [box b22 126 [iA t10, iB t11, iB t12, iC t13, iA t14, iA t15, iA t16, iA t17, iA t18, iA t19, iA t20], box b30 128 [.func (.func 94) #[.agg #[iA t10, iB t11, iB t12, iC t13, iA t14, iA t15, iA t16, iA t17, iA t18, iA t19, iA t20]] #[], .func (.func 95) #[.agg #[iA t10, iB t11, iB t12, iC t13, iA t14, iA t15, iA t16, iA t17, iA t18, iA t19, iA t20]] #[], .func (.func 96) #[.agg #[iA t10, iB t11, iB t12, iC t13, iA t14, iA t15, iA t16, iA t17, iA t18, iA t19, iA t20]] #[], .func (.func 97) #[.agg #[iA t10, iB t11, iB t12, iC t13, iA t14, iA t15, iA t16, iA t17, iA t18, iA t19, iA t20]] #[]], gl 1 (tab_1.flatMap en_1), gl 2 (tab_2.flatMap en_2), gl 3 (tab_3.flatMap en_3), gl 4 (tab_4.flatMap en_4), gl 5 (tab_5.flatMap en_5), gl 6 (tab_6.flatMap en_6), gl 7 (tab_7.flatMap en_7), gl 8 (tab_8.flatMap en_8), gl 9 (tab_9.flatMap en_9), gl 10 (tab_10.flatMap en_10), gl 11 (tab_11.flatMap en_11), gl 12 (tab_12.flatMap en_12), gl 15 (tab_15.flatMap en_15), gl 16 (tab_16.flatMap en_16)] → RunsI F63 [.c 20, .blk 0, .c 45] [(3, pt b22), (4, pt b30), (17, iA d1), (18, .bool t39)] w41 (text_Show_63.post M0 w0 r) := by
  intro t39 w41 h h40
  rw [hJ43] at h
  clear hJ43
  dsimp only at h
  rcases of_cond h with ⟨hc45, h⟩ | ⟨hc45, h⟩
  ·refine RunsI.fb 18 true hc45 21 ?_
   refine RunsI.q 1 22 [.c 23, .blk 0, .c 45] 1 [(4, pt b30), (22, pu b22 6)] ?_
   refine RegI.o (OpE.lB 23 0 3 b22 6 (iA t16) h40 rfl ?_)
   rcases of_cond h with ⟨hc46, h⟩ | ⟨hc46, h⟩
   ·refine RegI.o (OpE.run 24 (by kernel_rfl) (run_idxArrK (T := 128) (b := b30) (o := 0) (ix := t16) (k := 0) (len := 4) (s := 1) (by kernel_rfl) (by kernel_rfl) hc46 (by kernel_rfl)) ?_)
    refine RegI.o (OpE.lB 25 1 65 b30 0 (.func (.func 94) #[.agg #[iA t10, iB t11, iB t12, iC t13, iA t14, iA t15, iA t16, iA t17, iA t18, iA t19, iA t20]] #[]) h40 rfl ?_)
    obtain ⟨t51, hg50, h⟩ := of_bind h
    refine RegI.o (OpE.cl 26 94 #[.agg #[iA t10, iB t11, iB t12, iC t13, iA t14, iA t15, iA t16, iA t17, iA t18, iA t19, iA t20]] ((text_shown_low_94_ok K _ w41  t10 t11 t12 t13 t14 t15 t16 t17 t18 t19 t20 h40.old' (h40.get 2 rfl) (h40.get 3 rfl) (h40.get 7 rfl) (h40.get 8 rfl) (h40.get 13 rfl) (h40.get 14 rfl) (h40.get 15 rfl) hg50).mono ?_))
    rintro _ w47 ⟨rfl, hb48⟩
    refine ⟨_, rfl, ?_⟩
    have h49 := h40.call hb48
    refine RegI.pd 1 [(2, .string t51)] ?_
    refine RunsI.t (.string t51) ?_
    obtain rfl := Option.some.inj h
    exact ⟨rfl, h49.below⟩
   ·rcases of_cond h with ⟨hc52, h⟩ | ⟨hc52, h⟩
    ·refine RegI.o (OpE.run 24 (by kernel_rfl) (run_idxArrK (T := 128) (b := b30) (o := 0) (ix := t16) (k := 1) (len := 4) (s := 1) (by kernel_rfl) (by kernel_rfl) hc52 (by kernel_rfl)) ?_)
     refine RegI.o (OpE.lB 25 1 65 b30 1 (.func (.func 95) #[.agg #[iA t10, iB t11, iB t12, iC t13, iA t14, iA t15, iA t16, iA t17, iA t18, iA t19, iA t20]] #[]) h40 rfl ?_)
     obtain ⟨t57, hg56, h⟩ := of_bind h
     refine RegI.o (OpE.cl 26 95 #[.agg #[iA t10, iB t11, iB t12, iC t13, iA t14, iA t15, iA t16, iA t17, iA t18, iA t19, iA t20]] ((text_shown_moves_95_ok K _ w41  t10 t11 t12 t13 t14 t15 t16 t17 t18 t19 t20 h40.old' (h40.get 7 rfl) (h40.get 13 rfl) hg56).mono ?_))
     rintro _ w53 ⟨rfl, hb54⟩
     refine ⟨_, rfl, ?_⟩
     have h55 := h40.call hb54
     refine RegI.pd 1 [(2, .string t57)] ?_
     refine RunsI.t (.string t57) ?_
     obtain rfl := Option.some.inj h
     exact ⟨rfl, h55.below⟩
    ·rcases of_cond h with ⟨hc58, h⟩ | ⟨hc58, h⟩
     ·refine RegI.o (OpE.run 24 (by kernel_rfl) (run_idxArrK (T := 128) (b := b30) (o := 0) (ix := t16) (k := 2) (len := 4) (s := 1) (by kernel_rfl) (by kernel_rfl) hc58 (by kernel_rfl)) ?_)
      refine RegI.o (OpE.lB 25 1 65 b30 2 (.func (.func 96) #[.agg #[iA t10, iB t11, iB t12, iC t13, iA t14, iA t15, iA t16, iA t17, iA t18, iA t19, iA t20]] #[]) h40 rfl ?_)
      obtain ⟨t63, hg62, h⟩ := of_bind h
      refine RegI.o (OpE.cl 26 96 #[.agg #[iA t10, iB t11, iB t12, iC t13, iA t14, iA t15, iA t16, iA t17, iA t18, iA t19, iA t20]] ((text_shown_sums_96_ok K _ w41  t10 t11 t12 t13 t14 t15 t16 t17 t18 t19 t20 h40.old' (h40.get 4 rfl) (h40.get 7 rfl) (h40.get 13 rfl) hg62).mono ?_))
      rintro _ w59 ⟨rfl, hb60⟩
      refine ⟨_, rfl, ?_⟩
      have h61 := h40.call hb60
      refine RegI.pd 1 [(2, .string t63)] ?_
      refine RunsI.t (.string t63) ?_
      obtain rfl := Option.some.inj h
      exact ⟨rfl, h61.below⟩
     ·obtain ⟨hc64, h⟩ := of_cond0 h
      refine RegI.o (OpE.run 24 (by kernel_rfl) (run_idxArrK (T := 128) (b := b30) (o := 0) (ix := t16) (k := 3) (len := 4) (s := 1) (by kernel_rfl) (by kernel_rfl) hc64 (by kernel_rfl)) ?_)
      refine RegI.o (OpE.lB 25 1 65 b30 3 (.func (.func 97) #[.agg #[iA t10, iB t11, iB t12, iC t13, iA t14, iA t15, iA t16, iA t17, iA t18, iA t19, iA t20]] #[]) h40 rfl ?_)
      obtain ⟨t69, hg68, h⟩ := of_bind h
      refine RegI.o (OpE.cl 26 97 #[.agg #[iA t10, iB t11, iB t12, iC t13, iA t14, iA t15, iA t16, iA t17, iA t18, iA t19, iA t20]] ((text_shown_high_97_ok K _ w41  t10 t11 t12 t13 t14 t15 t16 t17 t18 t19 t20 h40.old' (h40.get 2 rfl) (h40.get 4 rfl) (h40.get 8 rfl) (h40.get 13 rfl) (h40.get 14 rfl) (h40.get 15 rfl) hg68).mono ?_))
      rintro _ w65 ⟨rfl, hb66⟩
      refine ⟨_, rfl, ?_⟩
      have h67 := h40.call hb66
      refine RegI.pd 1 [(2, .string t69)] ?_
      refine RunsI.t (.string t69) ?_
      obtain rfl := Option.some.inj h
      exact ⟨rfl, h67.below⟩
  ·refine RunsI.fb 18 false hc45 24 ?_
   refine RunsI.qd 1 25 [.c 26, .blk 0, .c 45] 2 [(3, pt b22), (17, iA d1), (27, .bool (d1 == 2))] ?_
   rcases of_cond h with ⟨hc70, h⟩ | ⟨hc70, h⟩
   ·refine RunsI.fb 27 true hc70 27 ?_
    refine RunsI.g 1 [.c 28, .c 29, .blk 0, .c 45] ?_
    refine RunsI.r ?_
    refine RegI.o (OpE.lB 29 0 126 b22 0 (.agg #[iA t10, iB t11, iB t12, iC t13, iA t14, iA t15, iA t16, iA t17, iA t18, iA t19, iA t20]) h40 rfl ?_)
    obtain ⟨t75, hg74, h⟩ := of_bind h
    refine RegI.o (OpE.cl 30 98 #[.agg #[iA t10, iB t11, iB t12, iC t13, iA t14, iA t15, iA t16, iA t17, iA t18, iA t19, iA t20]] ((text_shown_far_98_ok K _ w41  t10 t11 t12 t13 t14 t15 t16 t17 t18 t19 t20 h40.old' (h40.get 5 rfl) (h40.get 6 rfl) (h40.get 7 rfl) (h40.get 8 rfl) (h40.get 9 rfl) (h40.get 10 rfl) (h40.get 13 rfl) (h40.get 14 rfl) (h40.get 15 rfl) hg74).mono ?_))
    rintro _ w71 ⟨rfl, hb72⟩
    refine ⟨_, rfl, ?_⟩
    have h73 := h40.call hb72
    refine RegI.pd 1 [(2, .string t75)] ?_
    refine RunsI.t (.string t75) ?_
    obtain rfl := Option.some.inj h
    exact ⟨rfl, h73.below⟩
   ·refine RunsI.fb 27 false hc70 30 ?_
    refine RunsI.qd 2 32 [.c 33, .c 40, .blk 0, .c 45] 2 [(3, pt b22), (17, iA d1), (31, .bool (d1 == 1))] ?_
    obtain ⟨j81, hJ82, h⟩ := of_let h
    have hj83 : ∀ (t78 : Bool) (w80 : World), j81 t78 = some r → Holds M0 w0 w80 [box b22 126 [iA t10, iB t11, iB t12, iC t13, iA t14, iA t15, iA t16, iA t17, iA t18, iA t19, iA t20], gl 1 (tab_1.flatMap en_1), gl 2 (tab_2.flatMap en_2), gl 3 (tab_3.flatMap en_3), gl 4 (tab_4.flatMap en_4), gl 5 (tab_5.flatMap en_5), gl 6 (tab_6.flatMap en_6), gl 7 (tab_7.flatMap en_7), gl 8 (tab_8.flatMap en_8), gl 9 (tab_9.flatMap en_9), gl 10 (tab_10.flatMap en_10), gl 11 (tab_11.flatMap en_11), gl 12 (tab_12.flatMap en_12), gl 15 (tab_15.flatMap en_15), gl 16 (tab_16.flatMap en_16)] → RunsI F63 [.c 40, .blk 0, .c 45] [(3, pt b22), (31, .bool t78)] w80 (text_Show_63.post M0 w0 r) := by
     intro t78 w80 h h79
     rw [hJ82] at h
     clear hJ82
     dsimp only at h
     rcases of_cond h with ⟨hc84, h⟩ | ⟨hc84, h⟩
     ·refine RunsI.fb 31 true hc84 41 ?_
      refine RunsI.g 1 [.c 42, .c 43, .blk 0, .c 45] ?_
      refine RunsI.r ?_
      refine RegI.o (OpE.lB 35 0 126 b22 0 (.agg #[iA t10, iB t11, iB t12, iC t13, iA t14, iA t15, iA t16, iA t17, iA t18, iA t19, iA t20]) h79 rfl ?_)
      obtain ⟨t89, hg88, h⟩ := of_bind h
      refine RegI.o (OpE.cl 36 99 #[.agg #[iA t10, iB t11, iB t12, iC t13, iA t14, iA t15, iA t16, iA t17, iA t18, iA t19, iA t20]] ((text_shown_bit_99_ok K _ w80  t10 t11 t12 t13 t14 t15 t16 t17 t18 t19 t20 h79.old' (h79.get 6 rfl) (h79.get 10 rfl) (h79.get 11 rfl) (h79.get 12 rfl) hg88).mono ?_))
      rintro _ w85 ⟨rfl, hb86⟩
      refine ⟨_, rfl, ?_⟩
      have h87 := h79.call hb86
      refine RegI.pd 1 [(2, .string t89)] ?_
      refine RunsI.t (.string t89) ?_
      obtain rfl := Option.some.inj h
      exact ⟨rfl, h87.below⟩
     ·refine RunsI.fb 31 false hc84 44 ?_
      refine RunsI.g 1 [.blk 0, .c 45] ?_
      refine RunsI.qd 2 46 [.c 47] 1 [(2, .string (⟨#[63]⟩ : ByteArray))] ?_
      refine RunsI.t (.string (⟨#[63]⟩ : ByteArray)) ?_
      obtain rfl := Option.some.inj h
      exact ⟨rfl, h79.below⟩
    clear hJ82
    rcases of_cond h with ⟨hc76, h⟩ | ⟨hc76, h⟩
    ·refine RunsI.fb 31 true hc76 34 ?_
     refine RunsI.g 1 [.c 40, .blk 0, .c 45] ?_
     refine RunsI.l [3, 31] [(3, pt b22), (31, .bool true)] ?_
     exact hj83 true w41 h (h40.pick [0, 2, 3, 4, 5, 6, 7, 8, 9, 10, 11, 12, 13, 14, 15] (by decide))
    ·refine RunsI.fb 31 false hc76 35 ?_
     refine RunsI.qd 1 36 [.c 37, .c 40, .blk 0, .c 45] 2 [(3, pt b22), (17, iA d1), (31, .bool (d1 == 5))] ?_
     rcases of_cond h with ⟨hc77, h⟩ | ⟨hc77, h⟩
     ·refine RunsI.fb 31 true hc77 38 ?_
      refine RunsI.g 1 [.c 40, .blk 0, .c 45] ?_
      refine RunsI.l [3, 31] [(3, pt b22), (31, .bool true)] ?_
      exact hj83 true w41 h (h40.pick [0, 2, 3, 4, 5, 6, 7, 8, 9, 10, 11, 12, 13, 14, 15] (by decide))
     ·refine RunsI.fb 31 false hc77 39 ?_
      refine RunsI.r ?_
      refine RegI.pd 2 [(3, pt b22), (31, .bool (d1 == 6))] ?_
      refine RunsI.l [3, 31] [(3, pt b22), (31, .bool (d1 == 6))] ?_
      exact hj83 (d1 == 6) w41 h (h40.pick [0, 2, 3, 4, 5, 6, 7, 8, 9, 10, 11, 12, 13, 14, 15] (by decide))
 clear hJ43
 rcases of_cond h with ⟨hc37, h⟩ | ⟨hc37, h⟩
 ·refine RunsI.fb 18 true hc37 14 ?_
  refine RunsI.g 1 [.c 20, .blk 0, .c 45] ?_
  refine RunsI.l [3, 4, 17, 18] [(3, pt b22), (4, pt b30), (17, iA d1), (18, .bool true)] ?_
  exact hj44 true w34 h (h35.pick [15, 16, 0, 1, 2, 3, 4, 5, 6, 7, 8, 9, 10, 11, 12, 13] (by decide))
 ·refine RunsI.fb 18 false hc37 15 ?_
  refine RunsI.qd 1 16 [.c 17, .c 20, .blk 0, .c 45] 2 [(3, pt b22), (4, pt b30), (17, iA d1), (18, .bool (d1 == 3))] ?_
  rcases of_cond h with ⟨hc38, h⟩ | ⟨hc38, h⟩
  ·refine RunsI.fb 18 true hc38 18 ?_
   refine RunsI.g 1 [.c 20, .blk 0, .c 45] ?_
   refine RunsI.l [3, 4, 17, 18] [(3, pt b22), (4, pt b30), (17, iA d1), (18, .bool true)] ?_
   exact hj44 true w34 h (h35.pick [15, 16, 0, 1, 2, 3, 4, 5, 6, 7, 8, 9, 10, 11, 12, 13] (by decide))
  ·refine RunsI.fb 18 false hc38 19 ?_
   refine RunsI.r ?_
   refine RegI.pd 2 [(3, pt b22), (4, pt b30), (17, iA d1), (18, .bool (d1 == 4))] ?_
   refine RunsI.l [3, 4, 17, 18] [(3, pt b22), (4, pt b30), (17, iA d1), (18, .bool (d1 == 4))] ?_
   exact hj44 (d1 == 4) w34 h (h35.pick [15, 16, 0, 1, 2, 3, 4, 5, 6, 7, 8, 9, 10, 11, 12, 13] (by decide))
end

/-! ### (charabanc/listing.one).text (function 38) -/
section
def listing_one_text_38.post (M0 : Nat → Prop) (w0 : World) (r : ByteArray) : Ending → World → Prop := fun e w => e = .returned (.string r) ∧ Below w0.heap.size w0 w
def listing_one_text_38.f (K : Nat) (p0_0 : Int) (p0_1 : List Int) (p0_2_0 : Int) (p0_2_1 : Int) (p0_2_2 : Int) (p0_2_3 : Int) (p0_2_4 : Int) (p0_2_5 : Int) (p0_3 : Bool) : Option ByteArray := cond (!p0_3) (some (⟨#[46, 46]⟩ : ByteArray)) ((text_Show_63.f K p0_2_0 p0_2_1 p0_2_2 p0_2_3 p0_2_4 p0_2_5).bind fun t11 => some t11)
theorem listing_one_text_38_ok (K : Nat) (M0 : Nat → Prop) (w0 : World) (pA0_1 : Option Addr) (pc0_1 : Nat) (d1 : Int) (a6 : List Int) (d2 : Int) (d3 : Int) (d4 : Int) (d5 : Int) (d6 : Int) (d7 : Int) (a8 : Bool) (ho : ∀ b, M0 b → b < w0.heap.size) (hs0_1 : Sl (Rp.int .u8) w0 M0 (.slice pA0_1 a6.length pc0_1) a6) (hG1 : (gl 1 (tab_1.flatMap en_1)).ok w0 M0) (hG2 : (gl 2 (tab_2.flatMap en_2)).ok w0 M0) (hG3 : (gl 3 (tab_3.flatMap en_3)).ok w0 M0) (hG4 : (gl 4 (tab_4.flatMap en_4)).ok w0 M0) (hG5 : (gl 5 (tab_5.flatMap en_5)).ok w0 M0) (hG6 : (gl 6 (tab_6.flatMap en_6)).ok w0 M0) (hG7 : (gl 7 (tab_7.flatMap en_7)).ok w0 M0) (hG8 : (gl 8 (tab_8.flatMap en_8)).ok w0 M0) (hG9 : (gl 9 (tab_9.flatMap en_9)).ok w0 M0) (hG10 : (gl 10 (tab_10.flatMap en_10)).ok w0 M0) (hG11 : (gl 11 (tab_11.flatMap en_11)).ok w0 M0) (hG12 : (gl 12 (tab_12.flatMap en_12)).ok w0 M0) (hG15 : (gl 15 (tab_15.flatMap en_15)).ok w0 M0) (hG16 : (gl 16 (tab_16.flatMap en_16)).ok w0 M0) {r : ByteArray} (h : listing_one_text_38.f K d1 a6 d2 d3 d4 d5 d6 d7 a8 = some r) :
  Calls Tryz.prog 38 #[.agg #[iC d1, .slice pA0_1 a6.length pc0_1, iA d2, iB d3, iB d4, iC d5, iA d6, iA d7, .bool a8]] w0 (listing_one_text_38.post M0 w0 r) := by
 unfold listing_one_text_38.f at h
 have h0 : Holds M0 w0 w0 [] := Holds.start ho
 have h00_1 := h0.addSl (Rp.int .u8) (.slice pA0_1 a6.length pc0_1) a6 (hs0_1.mono (fun _ _ hm => hm.elim id (fun hm => absurd hm (by simp [mines, sl]))))
 have h0g1 := h00_1.add (gl 1 (tab_1.flatMap en_1)) rfl ⟨hG1.1, fun hm => hG1.2.1 (hm.elim id (fun hm => absurd hm (by simp [mines, sl, gl, cel]))), hG1.2.2⟩
 have h0g2 := h0g1.add (gl 2 (tab_2.flatMap en_2)) rfl ⟨hG2.1, fun hm => hG2.2.1 (hm.elim id (fun hm => absurd hm (by simp [mines, sl, gl, cel]))), hG2.2.2⟩
 have h0g3 := h0g2.add (gl 3 (tab_3.flatMap en_3)) rfl ⟨hG3.1, fun hm => hG3.2.1 (hm.elim id (fun hm => absurd hm (by simp [mines, sl, gl, cel]))), hG3.2.2⟩
 have h0g4 := h0g3.add (gl 4 (tab_4.flatMap en_4)) rfl ⟨hG4.1, fun hm => hG4.2.1 (hm.elim id (fun hm => absurd hm (by simp [mines, sl, gl, cel]))), hG4.2.2⟩
 have h0g5 := h0g4.add (gl 5 (tab_5.flatMap en_5)) rfl ⟨hG5.1, fun hm => hG5.2.1 (hm.elim id (fun hm => absurd hm (by simp [mines, sl, gl, cel]))), hG5.2.2⟩
 have h0g6 := h0g5.add (gl 6 (tab_6.flatMap en_6)) rfl ⟨hG6.1, fun hm => hG6.2.1 (hm.elim id (fun hm => absurd hm (by simp [mines, sl, gl, cel]))), hG6.2.2⟩
 have h0g7 := h0g6.add (gl 7 (tab_7.flatMap en_7)) rfl ⟨hG7.1, fun hm => hG7.2.1 (hm.elim id (fun hm => absurd hm (by simp [mines, sl, gl, cel]))), hG7.2.2⟩
 have h0g8 := h0g7.add (gl 8 (tab_8.flatMap en_8)) rfl ⟨hG8.1, fun hm => hG8.2.1 (hm.elim id (fun hm => absurd hm (by simp [mines, sl, gl, cel]))), hG8.2.2⟩
 have h0g9 := h0g8.add (gl 9 (tab_9.flatMap en_9)) rfl ⟨hG9.1, fun hm => hG9.2.1 (hm.elim id (fun hm => absurd hm (by simp [mines, sl, gl, cel]))), hG9.2.2⟩
 have h0g10 := h0g9.add (gl 10 (tab_10.flatMap en_10)) rfl ⟨hG10.1, fun hm => hG10.2.1 (hm.elim id (fun hm => absurd hm (by simp [mines, sl, gl, cel]))), hG10.2.2⟩
 have h0g11 := h0g10.add (gl 11 (tab_11.flatMap en_11)) rfl ⟨hG11.1, fun hm => hG11.2.1 (hm.elim id (fun hm => absurd hm (by simp [mines, sl, gl, cel]))), hG11.2.2⟩
 have h0g12 := h0g11.add (gl 12 (tab_12.flatMap en_12)) rfl ⟨hG12.1, fun hm => hG12.2.1 (hm.elim id (fun hm => absurd hm (by simp [mines, sl, gl, cel]))), hG12.2.2⟩
 have h0g15 := h0g12.add (gl 15 (tab_15.flatMap en_15)) rfl ⟨hG15.1, fun hm => hG15.2.1 (hm.elim id (fun hm => absurd hm (by simp [mines, sl, gl, cel]))), hG15.2.2⟩
 have h0g16 := h0g15.add (gl 16 (tab_16.flatMap en_16)) rfl ⟨hG16.1, fun hm => hG16.2.1 (hm.elim id (fun hm => absurd hm (by simp [mines, sl, gl, cel]))), hG16.2.2⟩
 have h0 : Holds M0 w0 w0 [sl (Rp.int .u8) (.slice pA0_1 a6.length pc0_1) a6, gl 1 (tab_1.flatMap en_1), gl 2 (tab_2.flatMap en_2), gl 3 (tab_3.flatMap en_3), gl 4 (tab_4.flatMap en_4), gl 5 (tab_5.flatMap en_5), gl 6 (tab_6.flatMap en_6), gl 7 (tab_7.flatMap en_7), gl 8 (tab_8.flatMap en_8), gl 9 (tab_9.flatMap en_9), gl 10 (tab_10.flatMap en_10), gl 11 (tab_11.flatMap en_11), gl 12 (tab_12.flatMap en_12), gl 15 (tab_15.flatMap en_15), gl 16 (tab_16.flatMap en_16)] := h0g16
 refine calls_of F38 rfl [.agg #[iC d1, .slice pA0_1 a6.length pc0_1, iA d2, iB d3, iB d4, iC d5, iA d6, iA d7, .bool a8]] (by kernel_rfl) ?_
 refine RunsI.g 1 [.c 1, .c 2] ?_
 refine RunsI.r ?_
 refine RegI.o (OpE.bx 1 53 [iC d1, .slice pA0_1 a6.length pc0_1, iA d2, iB d3, iB d4, iC d5, iA d6, iA d7, .bool a8] h0 ?_)
 intro w1 b2 h3 hb4 hn5
 refine RegI.p 1 [(1, pt b2)] ?_
 refine RegI.q 2 4 [.c 5, .c 10] 1 [(1, pt b2), (3, pu b2 8)] ?_
 refine RegI.o (OpE.lB 4 15 4 b2 8 (.bool a8) h3 rfl ?_)
 refine RegI.pd 1 [(1, pt b2), (5, .bool (!a8))] ?_
 rcases of_cond h with ⟨hc6, h⟩ | ⟨hc6, h⟩
 ·refine RunsI.fb 5 true hc6 6 ?_
  refine RunsI.qd 1 7 [.c 8, .c 10] 1 [(2, .string (⟨#[46, 46]⟩ : ByteArray))] ?_
  refine RunsI.t (.string (⟨#[46, 46]⟩ : ByteArray)) ?_
  obtain rfl := Option.some.inj h
  exact ⟨rfl, h3.below⟩
 ·refine RunsI.fb 5 false hc6 9 ?_
  refine RunsI.g 1 [.c 10] ?_
  refine RunsI.q 1 11 [.c 12] 1 [(6, pu b2 2)] ?_
  refine RegI.o (OpE.lB 7 15 25 b2 2 (.agg #[iA d2, iB d3, iB d4, iC d5, iA d6, iA d7]) h3 rfl ?_)
  obtain ⟨t11, hg10, h⟩ := of_bind h
  refine RegI.o (OpE.cl 8 63 #[.agg #[iA d2, iB d3, iB d4, iC d5, iA d6, iA d7]] ((text_Show_63_ok K _ w1  d2 d3 d4 d5 d6 d7 h3.old' (h3.get 1 rfl) (h3.get 2 rfl) (h3.get 3 rfl) (h3.get 4 rfl) (h3.get 5 rfl) (h3.get 6 rfl) (h3.get 7 rfl) (h3.get 8 rfl) (h3.get 9 rfl) (h3.get 10 rfl) (h3.get 11 rfl) (h3.get 12 rfl) (h3.get 13 rfl) (h3.get 14 rfl) hg10).mono ?_))
  rintro _ w7 ⟨rfl, hb8⟩
  refine ⟨_, rfl, ?_⟩
  have h9 := h3.call hb8
  refine RegI.pd 1 [(2, .string t11)] ?_
  refine RunsI.t (.string t11) ?_
  obtain rfl := Option.some.inj h
  exact ⟨rfl, h9.below⟩
end
end Go.Proofs.YtbcepghanbkncaaGreatDoor.LiP
