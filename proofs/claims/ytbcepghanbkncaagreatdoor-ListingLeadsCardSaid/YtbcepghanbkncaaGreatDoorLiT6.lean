/- Functions of the program as plain Lean functions, each with the proof that the call comes to it; written by wip/eng.py. -/
import Derived.Test.YtbcepghanbkncaaGreatDoorEngShort2
import Derived.Test.YtbcepghanbkncaaGreatDoorLiT5
set_option linter.unusedVariables false
set_option linter.unusedSimpArgs false
set_option maxHeartbeats 4000000
namespace Go.Proofs.YtbcepghanbkncaaGreatDoor.LiT
open Go.RowKit Go.Eng
set_option maxRecDepth 100000
abbrev sf0 : ByteArray := ⟨#[44]⟩
abbrev sf1 : ByteArray := ⟨#[108, 100, 32]⟩
abbrev sf2 : ByteArray := ⟨#[41]⟩
abbrev sf3 : ByteArray := ⟨#[105, 110, 99, 32]⟩
abbrev sf4 : ByteArray := ⟨#[100, 101, 99, 32]⟩
abbrev sf5 : ByteArray := ⟨#[106, 114, 32]⟩
abbrev sf6 : ByteArray := ⟨#[106, 112, 32]⟩
abbrev sf7 : ByteArray := ⟨#[106, 112, 32, 40]⟩
abbrev sf8 : ByteArray := ⟨#[111, 117, 116, 32, 40]⟩
abbrev sf9 : ByteArray := ⟨#[105, 110, 32, 97, 44, 40]⟩
abbrev sf10 : ByteArray := ⟨#[112, 114, 101, 102, 105, 120]⟩
abbrev sf11 : ByteArray := ⟨#[99, 97, 108, 108, 32]⟩
abbrev sf12 : ByteArray := ⟨#[100, 106, 110, 122, 32]⟩
abbrev sf13 : ByteArray := ⟨#[108, 100, 32, 115, 112, 44]⟩
abbrev sf14 : ByteArray := ⟨#[41, 44, 97]⟩
abbrev sf15 : ByteArray := ⟨#[101, 120, 32, 40, 115, 112, 41, 44]⟩
abbrev sf16 : ByteArray := ⟨#[105, 110, 32]⟩
abbrev sf17 : ByteArray := ⟨#[115, 98, 99, 32, 104, 108, 44]⟩
abbrev sf18 : ByteArray := ⟨#[97, 100, 99, 32, 104, 108, 44]⟩
abbrev sf19 : ByteArray := ⟨#[110, 111, 112]⟩
abbrev sf20 : ByteArray := ⟨#[101, 120, 32, 97, 102, 44, 97, 102, 39]⟩
abbrev sf21 : ByteArray := ⟨#[114, 101, 116]⟩
abbrev sf22 : ByteArray := ⟨#[101, 120, 120]⟩
abbrev sf23 : ByteArray := ⟨#[101, 120, 32, 100, 101, 44, 104, 108]⟩
abbrev sf24 : ByteArray := ⟨#[100, 105]⟩
abbrev sf25 : ByteArray := ⟨#[101, 105]⟩
abbrev sf26 : ByteArray := ⟨#[97, 100, 100, 32]⟩
abbrev sf27 : ByteArray := ⟨#[102]⟩
abbrev sf28 : ByteArray := ⟨#[44, 40, 99, 41]⟩
abbrev sf29 : ByteArray := ⟨#[111, 117, 116, 32, 40, 99, 41, 44]⟩
abbrev sf30 : ByteArray := ⟨#[44, 40]⟩
abbrev sf31 : ByteArray := ⟨#[108, 100, 32, 40]⟩
abbrev sf32 : ByteArray := ⟨#[48]⟩
abbrev sf33 : ByteArray := ⟨#[41, 44]⟩
abbrev sf34 : ByteArray := ⟨#[114, 101, 116, 32]⟩
abbrev sf35 : ByteArray := ⟨#[112, 111, 112, 32]⟩
abbrev sf36 : ByteArray := ⟨#[112, 117, 115, 104, 32]⟩
abbrev sf37 : ByteArray := ⟨#[114, 115, 116, 32]⟩
abbrev sf38 : ByteArray := ⟨#[111, 117, 116]⟩
section
abbrev text_shown_low_94.post := pS
def text_shown_low_94.f (K : Nat) (p0_0_0 : Int) (p0_0_1 : Int) (p0_0_2 : Int) (p0_0_3 : Int) (p0_0_4 : Int) (p0_0_5 : Int) (p0_1 : Int) (p0_2 : Int) (p0_3 : Int) (p0_4 : Int) (p0_5 : Int) : Option ByteArray := cond (p0_3 == 0) (cond (decide (p0_2 > 3)) (cond (inR (IntKind.wrap .i64 (p0_2 - 4)) 8) (cond (mayCat (⟨#[106, 114, 32]⟩ : ByteArray).size (rdD tab_1 (IntKind.wrap .i64 (p0_2 - 4))).size) (cond (mayCat ((⟨#[106, 114, 32]⟩ : ByteArray) ++ (rdD tab_1 (IntKind.wrap .i64 (p0_2 - 4)))).size (⟨#[44]⟩ : ByteArray).size) ((text_shown_to_145.f K p0_0_0 p0_0_1 p0_0_2 p0_0_3 p0_0_4 p0_0_5 p0_1 p0_2 p0_3 p0_4 p0_5).bind fun t16 => cond (mayCat (((⟨#[106, 114, 32]⟩ : ByteArray) ++ (rdD tab_1 (IntKind.wrap .i64 (p0_2 - 4)))) ++ (⟨#[44]⟩ : ByteArray)).size t16.size) (some ((((⟨#[106, 114, 32]⟩ : ByteArray) ++ (rdD tab_1 (IntKind.wrap .i64 (p0_2 - 4)))) ++ (⟨#[44]⟩ : ByteArray)) ++ t16)) none) none) none) none) ((text_shown_to_145.f K p0_0_0 p0_0_1 p0_0_2 p0_0_3 p0_0_4 p0_0_5 p0_1 p0_2 p0_3 p0_4 p0_5).bind fun t26 => cond (mayCat (⟨#[100, 106, 110, 122, 32]⟩ : ByteArray).size t26.size) ((text_shown_to_145.f K p0_0_0 p0_0_1 p0_0_2 p0_0_3 p0_0_4 p0_0_5 p0_1 p0_2 p0_3 p0_4 p0_5).bind fun t29 => cond (mayCat (⟨#[106, 114, 32]⟩ : ByteArray).size t29.size) (cond (inR p0_2 4) (some (rdD ([(⟨#[110, 111, 112]⟩ : ByteArray), (⟨#[101, 120, 32, 97, 102, 44, 97, 102, 39]⟩ : ByteArray), ((⟨#[100, 106, 110, 122, 32]⟩ : ByteArray) ++ t26), ((⟨#[106, 114, 32]⟩ : ByteArray) ++ t29)] : List ByteArray) p0_2)) none) none) none)) (cond (p0_3 == 1) (cond (p0_5 == 1) ((text_shown_hl_146.f K p0_0_0 p0_0_1 p0_0_2 p0_0_3 p0_0_4 p0_0_5 p0_1 p0_2 p0_3 p0_4 p0_5).bind fun t42 => cond (mayCat (⟨#[97, 100, 100, 32]⟩ : ByteArray).size t42.size) (cond (mayCat ((⟨#[97, 100, 100, 32]⟩ : ByteArray) ++ t42).size (⟨#[44]⟩ : ByteArray).size) ((text_shown_pair_147.f K p0_0_0 p0_0_1 p0_0_2 p0_0_3 p0_0_4 p0_0_5 p0_1 p0_2 p0_3 p0_4 p0_5 p0_4 false).bind fun t46 => cond (mayCat (((⟨#[97, 100, 100, 32]⟩ : ByteArray) ++ t42) ++ (⟨#[44]⟩ : ByteArray)).size t46.size) (some ((((⟨#[97, 100, 100, 32]⟩ : ByteArray) ++ t42) ++ (⟨#[44]⟩ : ByteArray)) ++ t46)) none) none) none) ((text_shown_pair_147.f K p0_0_0 p0_0_1 p0_0_2 p0_0_3 p0_0_4 p0_0_5 p0_1 p0_2 p0_3 p0_4 p0_5 p0_4 false).bind fun t56 => cond (mayCat (⟨#[108, 100, 32]⟩ : ByteArray).size t56.size) (cond (mayCat ((⟨#[108, 100, 32]⟩ : ByteArray) ++ t56).size (⟨#[44]⟩ : ByteArray).size) ((text_shown_nn_148.f K p0_0_0 p0_0_1 p0_0_2 p0_0_3 p0_0_4 p0_0_5 p0_1 p0_2 p0_3 p0_4 p0_5).bind fun t60 => cond (mayCat (((⟨#[108, 100, 32]⟩ : ByteArray) ++ t56) ++ (⟨#[44]⟩ : ByteArray)).size t60.size) (some ((((⟨#[108, 100, 32]⟩ : ByteArray) ++ t56) ++ (⟨#[44]⟩ : ByteArray)) ++ t60)) none) none) none)) (cond (p0_3 == 2) ((text_shown_through_149.f K p0_0_0 p0_0_1 p0_0_2 p0_0_3 p0_0_4 p0_0_5 p0_1 p0_2 p0_3 p0_4 p0_5).bind fun t70 => some t70) (cond (p0_3 == 3) (cond (inR p0_5 2) ((text_shown_pair_147.f K p0_0_0 p0_0_1 p0_0_2 p0_0_3 p0_0_4 p0_0_5 p0_1 p0_2 p0_3 p0_4 p0_5 p0_4 false).bind fun t78 => cond (mayCat (rdD ([(⟨#[105, 110, 99, 32]⟩ : ByteArray), (⟨#[100, 101, 99, 32]⟩ : ByteArray)] : List ByteArray) p0_5).size t78.size) (some ((rdD ([(⟨#[105, 110, 99, 32]⟩ : ByteArray), (⟨#[100, 101, 99, 32]⟩ : ByteArray)] : List ByteArray) p0_5) ++ t78)) none) none) (Let (fun (t84 : Bool) => cond t84 (cond (inR (IntKind.wrap .i64 (p0_3 - 4)) 2) ((text_shown_reg_150.f K p0_0_0 p0_0_1 p0_0_2 p0_0_3 p0_0_4 p0_0_5 p0_1 p0_2 p0_3 p0_4 p0_5 p0_2).bind fun t97 => cond (mayCat (rdD ([(⟨#[105, 110, 99, 32]⟩ : ByteArray), (⟨#[100, 101, 99, 32]⟩ : ByteArray)] : List ByteArray) (IntKind.wrap .i64 (p0_3 - 4))).size t97.size) (some ((rdD ([(⟨#[105, 110, 99, 32]⟩ : ByteArray), (⟨#[100, 101, 99, 32]⟩ : ByteArray)] : List ByteArray) (IntKind.wrap .i64 (p0_3 - 4))) ++ t97)) none) none) (cond (p0_3 == 6) ((text_shown_reg_150.f K p0_0_0 p0_0_1 p0_0_2 p0_0_3 p0_0_4 p0_0_5 p0_1 p0_2 p0_3 p0_4 p0_5 p0_2).bind fun t108 => cond (mayCat (⟨#[108, 100, 32]⟩ : ByteArray).size t108.size) (cond (mayCat ((⟨#[108, 100, 32]⟩ : ByteArray) ++ t108).size (⟨#[44]⟩ : ByteArray).size) ((text_shown_n_151.f K p0_0_0 p0_0_1 p0_0_2 p0_0_3 p0_0_4 p0_0_5 p0_1 p0_2 p0_3 p0_4 p0_5).bind fun t112 => cond (mayCat (((⟨#[108, 100, 32]⟩ : ByteArray) ++ t108) ++ (⟨#[44]⟩ : ByteArray)).size t112.size) (some ((((⟨#[108, 100, 32]⟩ : ByteArray) ++ t108) ++ (⟨#[44]⟩ : ByteArray)) ++ t112)) none) none) none) (cond (inR p0_2 8) (some (rdD tab_2 p0_2)) none))) (fun j87 => cond (p0_3 == 4) (j87 true) (j87 (p0_3 == 5)))))))
theorem text_shown_low_94_ok (K : Nat) (M0 : Nat → Prop) (w0 : World) (a0 : Int) (a1 : Int) (a2 : Int) (a3 : Int) (a4 : Int) (a5 : Int) (a6 : Int) (a7 : Int) (a8 : Int) (a9 : Int) (d0 : Int) (ho : ∀ b, M0 b → b < w0.heap.size) (hG1 : G1.ok w0 M0) (hG2 : G2.ok w0 M0) (hG6 : G6.ok w0 M0) (hG7 : G7.ok w0 M0) (hG12 : G12.ok w0 M0) (hG15 : G15.ok w0 M0) (hG16 : G16.ok w0 M0) {r : ByteArray} (h : text_shown_low_94.f K a0 a1 a2 a3 a4 a5 a6 a7 a8 a9 d0 = some r) :
  Calls Tryz.prog 94 #[.agg #[iA a0, iB a1, iB a2, iC a3, iA a4, iA a5, iA a6, iA a7, iA a8, iA a9, iA d0]] w0 (text_shown_low_94.post M0 w0 r) := by
 unfold text_shown_low_94.f at h
 have h0 : Holds M0 w0 w0 [] := Holds.start ho
 have h0g1 := h0.aG hG1
 have h0g2 := h0g1.aG hG2
 have h0g6 := h0g2.aG hG6
 have h0g7 := h0g6.aG hG7
 have h0g12 := h0g7.aG hG12
 have h0g15 := h0g12.aG hG15
 have h0g16 := h0g15.aG hG16
 have h0 : Holds M0 w0 w0 [G1, G2, G6, G7, G12, G15, G16] := h0g16
 refine calls_of F94 rfl [.agg #[iA a0, iB a1, iB a2, iC a3, iA a4, iA a5, iA a6, iA a7, iA a8, iA a9, iA d0]] (by kernel_rfl) (Xg 1 [.c 1, .c 2] (Xr (Yx 1 126 [iA a0, iB a1, iB a2, iC a3, iA a4, iA a5, iA a6, iA a7, iA a8, iA a9, iA d0] h0 ?_)))
 intro w1 b2 h3 hb4 hn5
 refine Yp 1 [(1, pt b2)] (Zy 2 4 [.c 5, .c 63] 1 [1, 3] [(3, pu b2 8)] (Ya 4 7 3 b2 8 (iA a8) h3 rfl (Zy 2 7 [.c 8, .blk 0, .c 63] 2 [1, 4, 5] [(4, iA a8), (5, tB (a8 == 0))] (Ye (Vc 5 9 20 h (fun hc6 h => ?_) fun hc6 h => ?_)))))
 ·refine Xq 2 11 [.c 12, .c 17, .blk 0, .c 63] 1 [(1, pt b2), (7, pu b2 7)] (Ya 8 7 3 b2 7 (iA a7) h3 rfl (Zd 1 [1, 9] [(9, tB (decide (a7 > 3)))] (Vc 9 13 16 h (fun hc7 h => ?_) fun hc7 h => ?_)))
  ·refine Xg 1 [.c 14, .c 15, .c 17, .blk 0, .c 63] (RunsI.any 11 (by kernel_rfl) (by kernel_rfl) (by kernel_rfl) (Kp ([] : List Nat) (World.drew w1)) ?_)
   have h9 := h3.drew
   generalize World.drew w1 = w8 at h9 ⊢
   have hS10 := Kp.refl ([] : List Nat) w8
   refine Wu 0 10 (pu b2 7) hS10 (Wa 1 11 7 3 b2 7 (iA a7) [] h9 rfl hS10 rfl (Wu 2 12 (iA (wA (a7 - 4))) hS10 ?_))
   have ⟨hc12, h⟩ := oz h
   refine AnyE.run 3 13 (.pointer (some ⟨1, 0 + (Int.toNat (wA (a7 - 4))) * 1, none⟩)) (by kernel_rfl) hS10 (fun _ hk => run_idxArr (T := 169) (b := 1) (o := 0) (ix := (wA (a7 - 4))) (len := 8) (s := 1) (by kernel_rfl) (by kernel_rfl) hc12) (AnyE.loadTab 4 14 0 9 en_1 tab_1 0 1 (wA (a7 - 4)) (tS (rdD tab_1 (wA (a7 - 4)))) [] (o := 0 + (Int.toNat (wA (a7 - 4))) * 1 + 0) h9 rfl (by kernel_rfl) hS10 rfl rfl (fun _ => rfl) (by kernel_rfl) (by omega) hc12 (fun _ => by kernel_rfl) ?_)
   have ⟨hc13, h⟩ := oz h
   refine Wt 5 15 sf5 (rdD tab_1 (wA (a7 - 4))) hS10 hc13 ?_
   have ⟨hc14, h⟩ := oz h
   refine Wt 6 16 (sf5 ++ (rdD tab_1 (wA (a7 - 4)))) sf0 hS10 hc14 (Wa 7 17 7 126 b2 0 (.agg #[iA a0, iB a1, iB a2, iC a3, iA a4, iA a5, iA a6, iA a7, iA a8, iA a9, iA d0]) [] h9 rfl hS10 rfl ?_)
   obtain ⟨t16, hg15, h⟩ := of_bind h
   refine Wc 8 18 (tS t16) 145 #[.agg #[iA a0, iB a1, iB a2, iC a3, iA a4, iA a5, iA a6, iA a7, iA a8, iA a9, iA d0]] hS10 (fun w hk => text_shown_to_145_ok K (fun _ => False) w a0 a1 a2 a3 a4 a5 a6 a7 a8 a9 d0 nF (gF (h9.atI [] rfl hk 4 rfl rfl)) hg15) ?_
   have ⟨hc17, h⟩ := oz h
   refine Wt 9 19 ((sf5 ++ (rdD tab_1 (wA (a7 - 4)))) ++ sf0) t16 hS10 hc17 (Wu 10 2 (tS (((sf5 ++ (rdD tab_1 (wA (a7 - 4)))) ++ sf0) ++ t16)) hS10 (AnyE.done (by kernel_rfl) (fun w18 hu19 => ?_)))
   have h20 := h9.call hu19
   refine Vl [(2, tS (((sf5 ++ (rdD tab_1 (wA (a7 - 4)))) ++ sf0) ++ t16))] ?_
   obtain rfl := sI h
   exact Xt (tS (((sf5 ++ (rdD tab_1 (wA (a7 - 4)))) ++ sf0) ++ t16)) ⟨rfl, h20.below⟩
  ·refine Xg 1 [.c 17, .blk 0, .c 63] (Xg 1 [.c 18, .c 19, .blk 0, .c 63] (RunsI.any 11 (by kernel_rfl) (by kernel_rfl) (by kernel_rfl) (Kp ([] : List Nat) (World.drew w1)) ?_))
   have h22 := h3.drew
   generalize World.drew w1 = w21 at h22 ⊢
   have hS23 := Kp.refl ([] : List Nat) w21
   refine Wa 0 20 7 126 b2 0 (.agg #[iA a0, iB a1, iB a2, iC a3, iA a4, iA a5, iA a6, iA a7, iA a8, iA a9, iA d0]) [] h22 rfl hS23 rfl ?_
   obtain ⟨t26, hg25, h⟩ := of_bind h
   refine Wc 1 21 (tS t26) 145 #[.agg #[iA a0, iB a1, iB a2, iC a3, iA a4, iA a5, iA a6, iA a7, iA a8, iA a9, iA d0]] hS23 (fun w hk => text_shown_to_145_ok K (fun _ => False) w a0 a1 a2 a3 a4 a5 a6 a7 a8 a9 d0 nF (gF (h22.atI [] rfl hk 4 rfl rfl)) hg25) ?_
   have ⟨hc27, h⟩ := oz h
   refine Wt 2 22 sf12 t26 hS23 hc27 (Wa 3 23 7 126 b2 0 (.agg #[iA a0, iB a1, iB a2, iC a3, iA a4, iA a5, iA a6, iA a7, iA a8, iA a9, iA d0]) [] h22 rfl hS23 rfl ?_)
   obtain ⟨t29, hg28, h⟩ := of_bind h
   refine Wc 4 24 (tS t29) 145 #[.agg #[iA a0, iB a1, iB a2, iC a3, iA a4, iA a5, iA a6, iA a7, iA a8, iA a9, iA d0]] hS23 (fun w hk => text_shown_to_145_ok K (fun _ => False) w a0 a1 a2 a3 a4 a5 a6 a7 a8 a9 d0 nF (gF (h22.atI [] rfl hk 4 rfl rfl)) hg28) ?_
   have ⟨hc30, h⟩ := oz h
   refine Wt 5 25 sf5 t29 hS23 hc30 (Wu 6 26 (.agg (List.flatMap (fun (x : ByteArray) => ([tS x] : List Value)) ([sf19, sf20, (sf12 ++ t26), (sf5 ++ t29)] : List ByteArray)).toArray) hS23 (Wu 7 27 (pu b2 7) hS23 (Wa 8 28 7 3 b2 7 (iA a7) [] h22 rfl hS23 rfl ?_)))
   have ⟨hc31, h⟩ := oz h
   refine AnyE.run 9 29 (tS (rdD ([sf19, sf20, (sf12 ++ t26), (sf5 ++ t29)] : List ByteArray) a7)) (by kernel_rfl) hS23 (fun _ hk => run_indexTab (T0 := 170) (en := (fun (x : ByteArray) => ([tS x] : List Value))) (tab := ([sf19, sf20, (sf12 ++ t26), (sf5 ++ t29)] : List ByteArray)) (len := 4) (sz := 1) (j := a7) (v := tS (rdD ([sf19, sf20, (sf12 ++ t26), (sf5 ++ t29)] : List ByteArray) a7)) (fun _ => rfl) (by kernel_rfl) (by kernel_rfl) rfl hc31 (fun _ => by kernel_rfl)) (Wu 10 2 (tS (rdD ([sf19, sf20, (sf12 ++ t26), (sf5 ++ t29)] : List ByteArray) a7)) hS23 (AnyE.done (by kernel_rfl) (fun w32 hu33 => ?_)))
   have h34 := h22.call hu33
   refine Vl [(2, tS (rdD ([sf19, sf20, (sf12 ++ t26), (sf5 ++ t29)] : List ByteArray) a7))] ?_
   obtain rfl := sI h
   exact Xt (tS (rdD ([sf19, sf20, (sf12 ++ t26), (sf5 ++ t29)] : List ByteArray) a7)) ⟨rfl, h34.below⟩
 ·refine Xd 1 21 [.c 22, .blk 0, .c 63] 2 [(1, pt b2), (4, iA a8), (30, tB (a8 == 1))] (Vc 30 23 34 h (fun hc35 h => ?_) fun hc35 h => ?_)
  ·refine Xq 2 25 [.c 26, .c 31, .blk 0, .c 63] 1 [(1, pt b2), (32, pu b2 10)] (Ya 33 7 3 b2 10 (iA d0) h3 rfl (Zd 1 [1, 34] [(34, tB (d0 == 1))] (Vc 34 27 30 h (fun hc36 h => ?_) fun hc36 h => ?_)))
   ·refine Xg 1 [.c 28, .c 29, .c 31, .blk 0, .c 63] (RunsI.any 10 (by kernel_rfl) (by kernel_rfl) (by kernel_rfl) (Kp ([] : List Nat) (World.drew w1)) ?_)
    have h38 := h3.drew
    generalize World.drew w1 = w37 at h38 ⊢
    have hS39 := Kp.refl ([] : List Nat) w37
    refine Wa 0 35 7 126 b2 0 (.agg #[iA a0, iB a1, iB a2, iC a3, iA a4, iA a5, iA a6, iA a7, iA a8, iA a9, iA d0]) [] h38 rfl hS39 rfl ?_
    obtain ⟨t42, hg41, h⟩ := of_bind h
    refine Wc 1 36 (tS t42) 146 #[.agg #[iA a0, iB a1, iB a2, iC a3, iA a4, iA a5, iA a6, iA a7, iA a8, iA a9, iA d0]] hS39 (fun w hk => text_shown_hl_146_ok K (fun _ => False) w a0 a1 a2 a3 a4 a5 a6 a7 a8 a9 d0 nF (gF (h38.atI [] rfl hk 3 rfl rfl)) hg41) ?_
    have ⟨hc43, h⟩ := oz h
    refine Wt 2 37 sf26 t42 hS39 hc43 ?_
    have ⟨hc44, h⟩ := oz h
    refine Wt 3 38 (sf26 ++ t42) sf0 hS39 hc44 (Wa 4 39 7 126 b2 0 (.agg #[iA a0, iB a1, iB a2, iC a3, iA a4, iA a5, iA a6, iA a7, iA a8, iA a9, iA d0]) [] h38 rfl hS39 rfl (Wu 5 40 (pu b2 9) hS39 (Wa 6 41 7 3 b2 9 (iA a9) [] h38 rfl hS39 rfl ?_)))
    obtain ⟨t46, hg45, h⟩ := of_bind h
    refine Wc 7 42 (tS t46) 147 #[.agg #[iA a0, iB a1, iB a2, iC a3, iA a4, iA a5, iA a6, iA a7, iA a8, iA a9, iA d0], iA a9, tB false] hS39 (fun w hk => text_shown_pair_147_ok K (fun _ => False) w a0 a1 a2 a3 a4 a5 a6 a7 a8 a9 d0 a9 false nF (gF (h38.atI [] rfl hk 3 rfl rfl)) hg45) ?_
    have ⟨hc47, h⟩ := oz h
    refine Wt 8 43 ((sf26 ++ t42) ++ sf0) t46 hS39 hc47 (Wu 9 2 (tS (((sf26 ++ t42) ++ sf0) ++ t46)) hS39 (AnyE.done (by kernel_rfl) (fun w48 hu49 => ?_)))
    have h50 := h38.call hu49
    refine Vl [(2, tS (((sf26 ++ t42) ++ sf0) ++ t46))] ?_
    obtain rfl := sI h
    exact Xt (tS (((sf26 ++ t42) ++ sf0) ++ t46)) ⟨rfl, h50.below⟩
   ·refine Xg 1 [.c 31, .blk 0, .c 63] (Xg 1 [.c 32, .c 33, .blk 0, .c 63] (RunsI.any 10 (by kernel_rfl) (by kernel_rfl) (by kernel_rfl) (Kp ([] : List Nat) (World.drew w1)) ?_))
    have h52 := h3.drew
    generalize World.drew w1 = w51 at h52 ⊢
    have hS53 := Kp.refl ([] : List Nat) w51
    refine Wa 0 44 7 126 b2 0 (.agg #[iA a0, iB a1, iB a2, iC a3, iA a4, iA a5, iA a6, iA a7, iA a8, iA a9, iA d0]) [] h52 rfl hS53 rfl (Wu 1 45 (pu b2 9) hS53 (Wa 2 46 7 3 b2 9 (iA a9) [] h52 rfl hS53 rfl ?_))
    obtain ⟨t56, hg55, h⟩ := of_bind h
    refine Wc 3 47 (tS t56) 147 #[.agg #[iA a0, iB a1, iB a2, iC a3, iA a4, iA a5, iA a6, iA a7, iA a8, iA a9, iA d0], iA a9, tB false] hS53 (fun w hk => text_shown_pair_147_ok K (fun _ => False) w a0 a1 a2 a3 a4 a5 a6 a7 a8 a9 d0 a9 false nF (gF (h52.atI [] rfl hk 3 rfl rfl)) hg55) ?_
    have ⟨hc57, h⟩ := oz h
    refine Wt 4 48 sf1 t56 hS53 hc57 ?_
    have ⟨hc58, h⟩ := oz h
    refine Wt 5 49 (sf1 ++ t56) sf0 hS53 hc58 (Wa 6 50 7 126 b2 0 (.agg #[iA a0, iB a1, iB a2, iC a3, iA a4, iA a5, iA a6, iA a7, iA a8, iA a9, iA d0]) [] h52 rfl hS53 rfl ?_)
    obtain ⟨t60, hg59, h⟩ := of_bind h
    refine Wc 7 51 (tS t60) 148 #[.agg #[iA a0, iB a1, iB a2, iC a3, iA a4, iA a5, iA a6, iA a7, iA a8, iA a9, iA d0]] hS53 (fun w hk => text_shown_nn_148_ok K (fun _ => False) w a0 a1 a2 a3 a4 a5 a6 a7 a8 a9 d0 nF (gF (h52.atI [] rfl hk 4 rfl rfl)) (gF (h52.atI [] rfl hk 5 rfl rfl)) (gF (h52.atI [] rfl hk 6 rfl rfl)) hg59) ?_
    have ⟨hc61, h⟩ := oz h
    refine Wt 8 52 ((sf1 ++ t56) ++ sf0) t60 hS53 hc61 (Wu 9 2 (tS (((sf1 ++ t56) ++ sf0) ++ t60)) hS53 (AnyE.done (by kernel_rfl) (fun w62 hu63 => ?_)))
    have h64 := h52.call hu63
    refine Vl [(2, tS (((sf1 ++ t56) ++ sf0) ++ t60))] ?_
    obtain rfl := sI h
    exact Xt (tS (((sf1 ++ t56) ++ sf0) ++ t60)) ⟨rfl, h64.below⟩
  ·refine Xd 1 35 [.c 36, .blk 0, .c 63] 2 [(1, pt b2), (4, iA a8), (53, tB (a8 == 2))] (Vc 53 37 40 h (fun hc65 h => ?_) fun hc65 h => ?_)
   ·refine Xg 1 [.c 38, .c 39, .blk 0, .c 63] (Xr (Ya 55 7 126 b2 0 (.agg #[iA a0, iB a1, iB a2, iC a3, iA a4, iA a5, iA a6, iA a7, iA a8, iA a9, iA d0]) h3 rfl ?_))
    obtain ⟨t70, hg69, h⟩ := of_bind h
    refine Yc 56 149 #[.agg #[iA a0, iB a1, iB a2, iC a3, iA a4, iA a5, iA a6, iA a7, iA a8, iA a9, iA d0]] ((text_shown_through_149_ok K _ w1  a0 a1 a2 a3 a4 a5 a6 a7 a8 a9 d0 h3.old' (h3.get 3 rfl) (h3.get 4 rfl) (h3.get 5 rfl) (h3.get 6 rfl) hg69).mono ?_)
    rintro _ w66 ⟨rfl, hb67⟩
    refine ⟨_, rfl, ?_⟩
    have h68 := h3.call hb67
    refine Yd 1 [(2, tS t70)] ?_
    obtain rfl := sI h
    exact Xt (tS t70) ⟨rfl, h68.below⟩
   ·refine Xd 1 41 [.c 42, .blk 0, .c 63] 2 [(1, pt b2), (4, iA a8), (57, tB (a8 == 3))] (Vc 57 43 46 h (fun hc71 h => ?_) fun hc71 h => ?_)
    ·refine Xg 1 [.c 44, .c 45, .blk 0, .c 63] (RunsI.any 10 (by kernel_rfl) (by kernel_rfl) (by kernel_rfl) (Kp ([] : List Nat) (World.drew w1)) ?_)
     have h73 := h3.drew
     generalize World.drew w1 = w72 at h73 ⊢
     have hS74 := Kp.refl ([] : List Nat) w72
     refine Wu 0 59 (.agg #[tS sf3, tS sf4]) hS74 (Wu 1 60 (pu b2 10) hS74 (Wa 2 61 7 3 b2 10 (iA d0) [] h73 rfl hS74 rfl ?_))
     have ⟨hc76, h⟩ := oz h
     refine AnyE.run 3 62 (tS (rdD ([sf3, sf4] : List ByteArray) d0)) (by kernel_rfl) hS74 (fun _ hk => run_indexTab (T0 := 172) (en := (fun (x : ByteArray) => ([tS x] : List Value))) (tab := ([sf3, sf4] : List ByteArray)) (len := 2) (sz := 1) (j := d0) (v := tS (rdD ([sf3, sf4] : List ByteArray) d0)) (fun _ => rfl) (by kernel_rfl) (by kernel_rfl) rfl hc76 (fun _ => by kernel_rfl)) (Wa 4 63 7 126 b2 0 (.agg #[iA a0, iB a1, iB a2, iC a3, iA a4, iA a5, iA a6, iA a7, iA a8, iA a9, iA d0]) [] h73 rfl hS74 rfl (Wu 5 64 (pu b2 9) hS74 (Wa 6 65 7 3 b2 9 (iA a9) [] h73 rfl hS74 rfl ?_)))
     obtain ⟨t78, hg77, h⟩ := of_bind h
     refine Wc 7 66 (tS t78) 147 #[.agg #[iA a0, iB a1, iB a2, iC a3, iA a4, iA a5, iA a6, iA a7, iA a8, iA a9, iA d0], iA a9, tB false] hS74 (fun w hk => text_shown_pair_147_ok K (fun _ => False) w a0 a1 a2 a3 a4 a5 a6 a7 a8 a9 d0 a9 false nF (gF (h73.atI [] rfl hk 3 rfl rfl)) hg77) ?_
     have ⟨hc79, h⟩ := oz h
     refine Wt 8 67 (rdD ([sf3, sf4] : List ByteArray) d0) t78 hS74 hc79 (Wu 9 2 (tS ((rdD ([sf3, sf4] : List ByteArray) d0) ++ t78)) hS74 (AnyE.done (by kernel_rfl) (fun w80 hu81 => ?_)))
     have h82 := h73.call hu81
     refine Vl [(2, tS ((rdD ([sf3, sf4] : List ByteArray) d0) ++ t78))] ?_
     obtain rfl := sI h
     exact Xt (tS ((rdD ([sf3, sf4] : List ByteArray) d0) ++ t78)) ⟨rfl, h82.below⟩
    ·refine Xd 2 48 [.c 49, .c 52, .blk 0, .c 63] 2 [(1, pt b2), (4, iA a8), (68, tB (a8 == 4))] ?_
     obtain ⟨j87, hJ88, h⟩ := of_let h
     have hj89 : ∀ (t84 : Bool) (w86 : World), j87 t84 = some r → Holds M0 w0 w86 [box b2 126 [iA a0, iB a1, iB a2, iC a3, iA a4, iA a5, iA a6, iA a7, iA a8, iA a9, iA d0], G1, G2, G6, G7, G12, G15, G16] → RunsI F94 [.c 52, .blk 0, .c 63] [(1, pt b2), (4, iA a8), (68, tB t84)] w86 (text_shown_low_94.post M0 w0 r) := by
      intro t84 w86 h h85
      rw [hJ88] at h
      clear hJ88
      dsimp only at h
      refine Vc 68 53 56 h (fun hc90 h => ?_) fun hc90 h => ?_
      ·refine Xg 1 [.c 54, .c 55, .blk 0, .c 63] (RunsI.any 11 (by kernel_rfl) (by kernel_rfl) (by kernel_rfl) (Kp ([] : List Nat) (World.drew w86)) ?_)
       have h92 := h85.drew
       generalize World.drew w86 = w91 at h92 ⊢
       have hS93 := Kp.refl ([] : List Nat) w91
       refine Wu 0 71 (.agg #[tS sf3, tS sf4]) hS93 (Wu 1 72 (pu b2 8) hS93 (Wa 2 73 0 3 b2 8 (iA a8) [] h92 rfl hS93 rfl (Wu 3 74 (iA (wA (a8 - 4))) hS93 ?_)))
       have ⟨hc95, h⟩ := oz h
       refine AnyE.run 4 75 (tS (rdD ([sf3, sf4] : List ByteArray) (wA (a8 - 4)))) (by kernel_rfl) hS93 (fun _ hk => run_indexTab (T0 := 172) (en := (fun (x : ByteArray) => ([tS x] : List Value))) (tab := ([sf3, sf4] : List ByteArray)) (len := 2) (sz := 1) (j := (wA (a8 - 4))) (v := tS (rdD ([sf3, sf4] : List ByteArray) (wA (a8 - 4)))) (fun _ => rfl) (by kernel_rfl) (by kernel_rfl) rfl hc95 (fun _ => by kernel_rfl)) (Wa 5 76 0 126 b2 0 (.agg #[iA a0, iB a1, iB a2, iC a3, iA a4, iA a5, iA a6, iA a7, iA a8, iA a9, iA d0]) [] h92 rfl hS93 rfl (Wu 6 77 (pu b2 7) hS93 (Wa 7 78 0 3 b2 7 (iA a7) [] h92 rfl hS93 rfl ?_)))
       obtain ⟨t97, hg96, h⟩ := of_bind h
       refine Wc 8 79 (tS t97) 150 #[.agg #[iA a0, iB a1, iB a2, iC a3, iA a4, iA a5, iA a6, iA a7, iA a8, iA a9, iA d0], iA a7] hS93 (fun w hk => text_shown_reg_150_ok K (fun _ => False) w a0 a1 a2 a3 a4 a5 a6 a7 a8 a9 d0 a7 nF (gF (h92.atI [] rfl hk 3 rfl rfl)) (gF (h92.atI [] rfl hk 5 rfl rfl)) hg96) ?_
       have ⟨hc98, h⟩ := oz h
       refine Wt 9 80 (rdD ([sf3, sf4] : List ByteArray) (wA (a8 - 4))) t97 hS93 hc98 (Wu 10 2 (tS ((rdD ([sf3, sf4] : List ByteArray) (wA (a8 - 4))) ++ t97)) hS93 (AnyE.done (by kernel_rfl) (fun w99 hu100 => ?_)))
       have h101 := h92.call hu100
       refine Vl [(2, tS ((rdD ([sf3, sf4] : List ByteArray) (wA (a8 - 4))) ++ t97))] ?_
       obtain rfl := sI h
       exact Xt (tS ((rdD ([sf3, sf4] : List ByteArray) (wA (a8 - 4))) ++ t97)) ⟨rfl, h101.below⟩
      ·refine Xd 1 57 [.c 58, .blk 0, .c 63] 2 [(1, pt b2), (81, tB (a8 == 6))] (Vc 81 59 62 h (fun hc102 h => ?_) fun hc102 h => ?_)
       ·refine Xg 1 [.c 60, .c 61, .blk 0, .c 63] (RunsI.any 10 (by kernel_rfl) (by kernel_rfl) (by kernel_rfl) (Kp ([] : List Nat) (World.drew w86)) ?_)
        have h104 := h85.drew
        generalize World.drew w86 = w103 at h104 ⊢
        have hS105 := Kp.refl ([] : List Nat) w103
        refine Wa 0 83 0 126 b2 0 (.agg #[iA a0, iB a1, iB a2, iC a3, iA a4, iA a5, iA a6, iA a7, iA a8, iA a9, iA d0]) [] h104 rfl hS105 rfl (Wu 1 84 (pu b2 7) hS105 (Wa 2 85 0 3 b2 7 (iA a7) [] h104 rfl hS105 rfl ?_))
        obtain ⟨t108, hg107, h⟩ := of_bind h
        refine Wc 3 86 (tS t108) 150 #[.agg #[iA a0, iB a1, iB a2, iC a3, iA a4, iA a5, iA a6, iA a7, iA a8, iA a9, iA d0], iA a7] hS105 (fun w hk => text_shown_reg_150_ok K (fun _ => False) w a0 a1 a2 a3 a4 a5 a6 a7 a8 a9 d0 a7 nF (gF (h104.atI [] rfl hk 3 rfl rfl)) (gF (h104.atI [] rfl hk 5 rfl rfl)) hg107) ?_
        have ⟨hc109, h⟩ := oz h
        refine Wt 4 87 sf1 t108 hS105 hc109 ?_
        have ⟨hc110, h⟩ := oz h
        refine Wt 5 88 (sf1 ++ t108) sf0 hS105 hc110 (Wa 6 89 0 126 b2 0 (.agg #[iA a0, iB a1, iB a2, iC a3, iA a4, iA a5, iA a6, iA a7, iA a8, iA a9, iA d0]) [] h104 rfl hS105 rfl ?_)
        obtain ⟨t112, hg111, h⟩ := of_bind h
        refine Wc 7 90 (tS t112) 151 #[.agg #[iA a0, iB a1, iB a2, iC a3, iA a4, iA a5, iA a6, iA a7, iA a8, iA a9, iA d0]] hS105 (fun w hk => text_shown_n_151_ok K (fun _ => False) w a0 a1 a2 a3 a4 a5 a6 a7 a8 a9 d0 nF (gF (h104.atI [] rfl hk 5 rfl rfl)) (gF (h104.atI [] rfl hk 6 rfl rfl)) (gF (h104.atI [] rfl hk 7 rfl rfl)) hg111) ?_
        have ⟨hc113, h⟩ := oz h
        refine Wt 8 91 ((sf1 ++ t108) ++ sf0) t112 hS105 hc113 (Wu 9 2 (tS (((sf1 ++ t108) ++ sf0) ++ t112)) hS105 (AnyE.done (by kernel_rfl) (fun w114 hu115 => ?_)))
        have h116 := h104.call hu115
        refine Vl [(2, tS (((sf1 ++ t108) ++ sf0) ++ t112))] ?_
        obtain rfl := sI h
        exact Xt (tS (((sf1 ++ t108) ++ sf0) ++ t112)) ⟨rfl, h116.below⟩
       ·refine Xg 1 [.blk 0, .c 63] (Xq 2 64 [.c 65] 1 [(92, pu b2 7)] (Ya 93 0 3 b2 7 (iA a7) h85 rfl ?_))
        have ⟨hc117, h⟩ := oz h
        refine Yo (OpE.run 94 (by kernel_rfl) (run_idxArr (T := 169) (b := 2) (o := 0) (ix := a7) (len := 8) (s := 1) (by kernel_rfl) (by kernel_rfl) hc117) (Yo (OpE.loadTab 95 2 9 en_2 tab_2 0 1 a7 (tS (rdD tab_2 a7)) (o := 0 + (Int.toNat a7) * 1 + 0) h85 (by kernel_rfl) rfl (fun _ => rfl) (by kernel_rfl) (by omega) hc117 (fun _ => by kernel_rfl) (Yd 1 [(2, tS (rdD tab_2 a7))] ?_))))
        obtain rfl := sI h
        exact Xt (tS (rdD tab_2 a7)) ⟨rfl, h85.below⟩
     clear hJ88
     refine Vc 68 50 51 h (fun hc83 h => ?_) fun hc83 h => ?_
     ·refine Xg 1 [.c 52, .blk 0, .c 63] (Vl [(1, pt b2), (4, iA a8), (68, tB true)] ?_)
      exact hj89 true w1 h (h3.pk [7, 0, 1, 2, 3, 4, 5, 6])
     ·refine Xr (Yd 2 [(1, pt b2), (4, iA a8), (68, tB (a8 == 5))] (Vl [(1, pt b2), (4, iA a8), (68, tB (a8 == 5))] ?_))
      exact hj89 (a8 == 5) w1 h (h3.pk [7, 0, 1, 2, 3, 4, 5, 6])
end

section
abbrev text_shown_moves_95.post := pS
def text_shown_moves_95.f (K : Nat) (p0_0_0 : Int) (p0_0_1 : Int) (p0_0_2 : Int) (p0_0_3 : Int) (p0_0_4 : Int) (p0_0_5 : Int) (p0_1 : Int) (p0_2 : Int) (p0_3 : Int) (p0_4 : Int) (p0_5 : Int) : Option ByteArray := Let (fun (t7 : Bool) => cond t7 (some (⟨#[104, 97, 108, 116]⟩ : ByteArray)) ((text_shown_reg_150.f K p0_0_0 p0_0_1 p0_0_2 p0_0_3 p0_0_4 p0_0_5 p0_1 p0_2 p0_3 p0_4 p0_5 p0_2).bind fun t19 => cond (mayCat (⟨#[108, 100, 32]⟩ : ByteArray).size t19.size) (cond (mayCat ((⟨#[108, 100, 32]⟩ : ByteArray) ++ t19).size (⟨#[44]⟩ : ByteArray).size) ((text_shown_reg_150.f K p0_0_0 p0_0_1 p0_0_2 p0_0_3 p0_0_4 p0_0_5 p0_1 p0_2 p0_3 p0_4 p0_5 p0_3).bind fun t23 => cond (mayCat (((⟨#[108, 100, 32]⟩ : ByteArray) ++ t19) ++ (⟨#[44]⟩ : ByteArray)).size t23.size) (some ((((⟨#[108, 100, 32]⟩ : ByteArray) ++ t19) ++ (⟨#[44]⟩ : ByteArray)) ++ t23)) none) none) none)) (fun j10 => cond (p0_2 == 6) (j10 (p0_3 == 6)) (j10 false))
theorem text_shown_moves_95_ok (K : Nat) (M0 : Nat → Prop) (w0 : World) (a0 : Int) (a1 : Int) (a2 : Int) (a3 : Int) (a4 : Int) (a5 : Int) (a6 : Int) (a7 : Int) (a8 : Int) (a9 : Int) (d0 : Int) (ho : ∀ b, M0 b → b < w0.heap.size) (hG6 : G6.ok w0 M0) (hG12 : G12.ok w0 M0) {r : ByteArray} (h : text_shown_moves_95.f K a0 a1 a2 a3 a4 a5 a6 a7 a8 a9 d0 = some r) :
  Calls Tryz.prog 95 #[.agg #[iA a0, iB a1, iB a2, iC a3, iA a4, iA a5, iA a6, iA a7, iA a8, iA a9, iA d0]] w0 (text_shown_moves_95.post M0 w0 r) := by
 unfold text_shown_moves_95.f at h
 have h0 : Holds M0 w0 w0 [] := Holds.start ho
 have h0g6 := h0.aG hG6
 have h0g12 := h0g6.aG hG12
 have h0 : Holds M0 w0 w0 [G6, G12] := h0g12
 refine calls_of F95 rfl [.agg #[iA a0, iB a1, iB a2, iC a3, iA a4, iA a5, iA a6, iA a7, iA a8, iA a9, iA d0]] (by kernel_rfl) (Xg 1 [.c 1, .c 2] (Xr (Yx 1 126 [iA a0, iB a1, iB a2, iC a3, iA a4, iA a5, iA a6, iA a7, iA a8, iA a9, iA d0] h0 ?_)))
 intro w1 b2 h3 hb4 hn5
 refine Yp 1 [(1, pt b2)] (Zy 2 4 [.c 5, .c 10] 1 [1, 3] [(3, pu b2 7)] (Ya 4 2 3 b2 7 (iA a7) h3 rfl (Zp 2 [1, 6] [(6, tB (a7 == 6))] ?_)))
 obtain ⟨j10, hJ11, h⟩ := of_let h
 have hj12 : ∀ (t7 : Bool) (w9 : World), j10 t7 = some r → Holds M0 w0 w9 [box b2 126 [iA a0, iB a1, iB a2, iC a3, iA a4, iA a5, iA a6, iA a7, iA a8, iA a9, iA d0], G6, G12] → RegI F95 4 [.c 5, .c 10] 8 [(1, pt b2), (10, tB t7)] w9 (text_shown_moves_95.post M0 w0 r) := by
  intro t7 w9 h h8
  rw [hJ11] at h
  clear hJ11
  dsimp only at h
  refine Ye (Vc 10 6 9 h (fun hc13 h => ?_) fun hc13 h => ?_)
  ·refine Xd 1 7 [.c 8, .c 10] 1 [(2, tS (⟨#[104, 97, 108, 116]⟩ : ByteArray))] ?_
   obtain rfl := sI h
   exact Xt (tS (⟨#[104, 97, 108, 116]⟩ : ByteArray)) ⟨rfl, h8.below⟩
  ·refine Xg 1 [.c 10] (Xg 1 [.c 11, .c 12] (RunsI.any 12 (by kernel_rfl) (by kernel_rfl) (by kernel_rfl) (Kp ([] : List Nat) (World.drew w9)) ?_))
   have h15 := h8.drew
   generalize World.drew w9 = w14 at h15 ⊢
   have hS16 := Kp.refl ([] : List Nat) w14
   refine Wa 0 11 0 126 b2 0 (.agg #[iA a0, iB a1, iB a2, iC a3, iA a4, iA a5, iA a6, iA a7, iA a8, iA a9, iA d0]) [] h15 rfl hS16 rfl (Wu 1 12 (pu b2 7) hS16 (Wa 2 13 0 3 b2 7 (iA a7) [] h15 rfl hS16 rfl ?_))
   obtain ⟨t19, hg18, h⟩ := of_bind h
   refine Wc 3 14 (tS t19) 150 #[.agg #[iA a0, iB a1, iB a2, iC a3, iA a4, iA a5, iA a6, iA a7, iA a8, iA a9, iA d0], iA a7] hS16 (fun w hk => text_shown_reg_150_ok K (fun _ => False) w a0 a1 a2 a3 a4 a5 a6 a7 a8 a9 d0 a7 nF (gF (h15.atI [] rfl hk 1 rfl rfl)) (gF (h15.atI [] rfl hk 2 rfl rfl)) hg18) ?_
   have ⟨hc20, h⟩ := oz h
   refine Wt 4 15 sf1 t19 hS16 hc20 ?_
   have ⟨hc21, h⟩ := oz h
   refine Wt 5 16 (sf1 ++ t19) sf0 hS16 hc21 (Wa 6 17 0 126 b2 0 (.agg #[iA a0, iB a1, iB a2, iC a3, iA a4, iA a5, iA a6, iA a7, iA a8, iA a9, iA d0]) [] h15 rfl hS16 rfl (Wu 7 18 (pu b2 8) hS16 (Wa 8 19 0 3 b2 8 (iA a8) [] h15 rfl hS16 rfl ?_)))
   obtain ⟨t23, hg22, h⟩ := of_bind h
   refine Wc 9 20 (tS t23) 150 #[.agg #[iA a0, iB a1, iB a2, iC a3, iA a4, iA a5, iA a6, iA a7, iA a8, iA a9, iA d0], iA a8] hS16 (fun w hk => text_shown_reg_150_ok K (fun _ => False) w a0 a1 a2 a3 a4 a5 a6 a7 a8 a9 d0 a8 nF (gF (h15.atI [] rfl hk 1 rfl rfl)) (gF (h15.atI [] rfl hk 2 rfl rfl)) hg22) ?_
   have ⟨hc24, h⟩ := oz h
   refine Wt 10 21 ((sf1 ++ t19) ++ sf0) t23 hS16 hc24 (Wu 11 2 (tS (((sf1 ++ t19) ++ sf0) ++ t23)) hS16 (AnyE.done (by kernel_rfl) (fun w25 hu26 => ?_)))
   have h27 := h15.call hu26
   refine Vl [(2, tS (((sf1 ++ t19) ++ sf0) ++ t23))] ?_
   obtain rfl := sI h
   exact Xt (tS (((sf1 ++ t19) ++ sf0) ++ t23)) ⟨rfl, h27.below⟩
 clear hJ11
 rcases oc h with ⟨hc6, h⟩ | ⟨hc6, h⟩
 ·refine Yf 6 true hc6 (Zp 1 [1, 6, 7] [(7, pu b2 8)] (Ya 8 2 3 b2 8 (iA a8) h3 rfl (Zp 2 [1, 10] [(10, tB (a8 == 6))] (Ul [(1, pt b2), (10, tB (a8 == 6))] ?_))))
  exact hj12 (a8 == 6) w1 h (h3.pk [2, 0, 1])
 ·refine Yf 6 false hc6 (Zp 4 [1, 10] [(10, tB false)] (Ul [(1, pt b2), (10, tB false)] ?_))
  exact hj12 false w1 h (h3.pk [2, 0, 1])
end

section
abbrev text_shown_sums_96.post := pS
def text_shown_sums_96.f (K : Nat) (p0_0_0 : Int) (p0_0_1 : Int) (p0_0_2 : Int) (p0_0_3 : Int) (p0_0_4 : Int) (p0_0_5 : Int) (p0_1 : Int) (p0_2 : Int) (p0_3 : Int) (p0_4 : Int) (p0_5 : Int) : Option ByteArray := cond (inR p0_2 8) ((text_shown_reg_150.f K p0_0_0 p0_0_1 p0_0_2 p0_0_3 p0_0_4 p0_0_5 p0_1 p0_2 p0_3 p0_4 p0_5 p0_3).bind fun t12 => cond (mayCat (rdD tab_3 p0_2).size t12.size) (some ((rdD tab_3 p0_2) ++ t12)) none) none
theorem text_shown_sums_96_ok (K : Nat) (M0 : Nat → Prop) (w0 : World) (a0 : Int) (a1 : Int) (a2 : Int) (a3 : Int) (a4 : Int) (a5 : Int) (a6 : Int) (a7 : Int) (a8 : Int) (a9 : Int) (d0 : Int) (ho : ∀ b, M0 b → b < w0.heap.size) (hG3 : G3.ok w0 M0) (hG6 : G6.ok w0 M0) (hG12 : G12.ok w0 M0) {r : ByteArray} (h : text_shown_sums_96.f K a0 a1 a2 a3 a4 a5 a6 a7 a8 a9 d0 = some r) :
  Calls Tryz.prog 96 #[.agg #[iA a0, iB a1, iB a2, iC a3, iA a4, iA a5, iA a6, iA a7, iA a8, iA a9, iA d0]] w0 (text_shown_sums_96.post M0 w0 r) := by
 unfold text_shown_sums_96.f at h
 have h0 : Holds M0 w0 w0 [] := Holds.start ho
 have h0g3 := h0.aG hG3
 have h0g6 := h0g3.aG hG6
 have h0g12 := h0g6.aG hG12
 have h0 : Holds M0 w0 w0 [G3, G6, G12] := h0g12
 refine calls_of F96 rfl [.agg #[iA a0, iB a1, iB a2, iC a3, iA a4, iA a5, iA a6, iA a7, iA a8, iA a9, iA d0]] (by kernel_rfl) (Xg 1 [.c 1, .c 2] (Xr (Yx 1 126 [iA a0, iB a1, iB a2, iC a3, iA a4, iA a5, iA a6, iA a7, iA a8, iA a9, iA d0] h0 ?_)))
 intro w1 b2 h3 hb4 hn5
 refine Yd 1 [(1, pt b2)] (Xg 1 [.c 3, .c 4] (RunsI.any 10 (by kernel_rfl) (by kernel_rfl) (by kernel_rfl) (Kp ([] : List Nat) (World.drew w1)) ?_))
 have h7 := h3.drew
 generalize World.drew w1 = w6 at h7 ⊢
 have hS8 := Kp.refl ([] : List Nat) w6
 refine Wu 0 3 (pu b2 7) hS8 (Wa 1 4 3 3 b2 7 (iA a7) [] h7 rfl hS8 rfl ?_)
 have ⟨hc10, h⟩ := oz h
 refine AnyE.run 2 5 (.pointer (some ⟨3, 0 + (Int.toNat a7) * 1, none⟩)) (by kernel_rfl) hS8 (fun _ hk => run_idxArr (T := 169) (b := 3) (o := 0) (ix := a7) (len := 8) (s := 1) (by kernel_rfl) (by kernel_rfl) hc10) (AnyE.loadTab 3 6 0 9 en_3 tab_3 0 1 a7 (tS (rdD tab_3 a7)) [] (o := 0 + (Int.toNat a7) * 1 + 0) h7 rfl (by kernel_rfl) hS8 rfl rfl (fun _ => rfl) (by kernel_rfl) (by omega) hc10 (fun _ => by kernel_rfl) (Wa 4 7 3 126 b2 0 (.agg #[iA a0, iB a1, iB a2, iC a3, iA a4, iA a5, iA a6, iA a7, iA a8, iA a9, iA d0]) [] h7 rfl hS8 rfl (Wu 5 8 (pu b2 8) hS8 (Wa 6 9 3 3 b2 8 (iA a8) [] h7 rfl hS8 rfl ?_))))
 obtain ⟨t12, hg11, h⟩ := of_bind h
 refine Wc 7 10 (tS t12) 150 #[.agg #[iA a0, iB a1, iB a2, iC a3, iA a4, iA a5, iA a6, iA a7, iA a8, iA a9, iA d0], iA a8] hS8 (fun w hk => text_shown_reg_150_ok K (fun _ => False) w a0 a1 a2 a3 a4 a5 a6 a7 a8 a9 d0 a8 nF (gF (h7.atI [] rfl hk 1 rfl rfl)) (gF (h7.atI [] rfl hk 2 rfl rfl)) hg11) ?_
 have ⟨hc13, h⟩ := oz h
 refine Wt 8 11 (rdD tab_3 a7) t12 hS8 hc13 (Wu 9 2 (tS ((rdD tab_3 a7) ++ t12)) hS8 (AnyE.done (by kernel_rfl) (fun w14 hu15 => ?_)))
 have h16 := h7.call hu15
 refine Vl [(2, tS ((rdD tab_3 a7) ++ t12))] ?_
 obtain rfl := sI h
 exact Xt (tS ((rdD tab_3 a7) ++ t12)) ⟨rfl, h16.below⟩
end

section
abbrev text_shown_high_97.post := pS
def text_shown_high_97.f (K : Nat) (p0_0_0 : Int) (p0_0_1 : Int) (p0_0_2 : Int) (p0_0_3 : Int) (p0_0_4 : Int) (p0_0_5 : Int) (p0_1 : Int) (p0_2 : Int) (p0_3 : Int) (p0_4 : Int) (p0_5 : Int) : Option ByteArray := cond (p0_3 == 0) (cond (inR p0_2 8) (cond (mayCat (⟨#[114, 101, 116, 32]⟩ : ByteArray).size (rdD tab_1 p0_2).size) (some ((⟨#[114, 101, 116, 32]⟩ : ByteArray) ++ (rdD tab_1 p0_2))) none) none) (cond (p0_3 == 1) (cond (p0_5 == 0) ((text_shown_pair_147.f K p0_0_0 p0_0_1 p0_0_2 p0_0_3 p0_0_4 p0_0_5 p0_1 p0_2 p0_3 p0_4 p0_5 p0_4 true).bind fun t15 => cond (mayCat (⟨#[112, 111, 112, 32]⟩ : ByteArray).size t15.size) (some ((⟨#[112, 111, 112, 32]⟩ : ByteArray) ++ t15)) none) ((text_shown_hl_146.f K p0_0_0 p0_0_1 p0_0_2 p0_0_3 p0_0_4 p0_0_5 p0_1 p0_2 p0_3 p0_4 p0_5).bind fun t22 => cond (mayCat (⟨#[106, 112, 32, 40]⟩ : ByteArray).size t22.size) (cond (mayCat ((⟨#[106, 112, 32, 40]⟩ : ByteArray) ++ t22).size (⟨#[41]⟩ : ByteArray).size) ((text_shown_hl_146.f K p0_0_0 p0_0_1 p0_0_2 p0_0_3 p0_0_4 p0_0_5 p0_1 p0_2 p0_3 p0_4 p0_5).bind fun t26 => cond (mayCat (⟨#[108, 100, 32, 115, 112, 44]⟩ : ByteArray).size t26.size) (cond (inR p0_4 4) (some (rdD ([(⟨#[114, 101, 116]⟩ : ByteArray), (⟨#[101, 120, 120]⟩ : ByteArray), (((⟨#[106, 112, 32, 40]⟩ : ByteArray) ++ t22) ++ (⟨#[41]⟩ : ByteArray)), ((⟨#[108, 100, 32, 115, 112, 44]⟩ : ByteArray) ++ t26)] : List ByteArray) p0_4)) none) none) none) none)) (cond (p0_3 == 2) (cond (inR p0_2 8) (cond (mayCat (⟨#[106, 112, 32]⟩ : ByteArray).size (rdD tab_1 p0_2).size) (cond (mayCat ((⟨#[106, 112, 32]⟩ : ByteArray) ++ (rdD tab_1 p0_2)).size (⟨#[44]⟩ : ByteArray).size) ((text_shown_nn_148.f K p0_0_0 p0_0_1 p0_0_2 p0_0_3 p0_0_4 p0_0_5 p0_1 p0_2 p0_3 p0_4 p0_5).bind fun t41 => cond (mayCat (((⟨#[106, 112, 32]⟩ : ByteArray) ++ (rdD tab_1 p0_2)) ++ (⟨#[44]⟩ : ByteArray)).size t41.size) (some ((((⟨#[106, 112, 32]⟩ : ByteArray) ++ (rdD tab_1 p0_2)) ++ (⟨#[44]⟩ : ByteArray)) ++ t41)) none) none) none) none) (cond (p0_3 == 3) ((text_shown_nn_148.f K p0_0_0 p0_0_1 p0_0_2 p0_0_3 p0_0_4 p0_0_5 p0_1 p0_2 p0_3 p0_4 p0_5).bind fun t52 => cond (mayCat (⟨#[106, 112, 32]⟩ : ByteArray).size t52.size) ((text_shown_n_151.f K p0_0_0 p0_0_1 p0_0_2 p0_0_3 p0_0_4 p0_0_5 p0_1 p0_2 p0_3 p0_4 p0_5).bind fun t55 => cond (mayCat (⟨#[111, 117, 116, 32, 40]⟩ : ByteArray).size t55.size) (cond (mayCat ((⟨#[111, 117, 116, 32, 40]⟩ : ByteArray) ++ t55).size (⟨#[41, 44, 97]⟩ : ByteArray).size) ((text_shown_n_151.f K p0_0_0 p0_0_1 p0_0_2 p0_0_3 p0_0_4 p0_0_5 p0_1 p0_2 p0_3 p0_4 p0_5).bind fun t59 => cond (mayCat (⟨#[105, 110, 32, 97, 44, 40]⟩ : ByteArray).size t59.size) (cond (mayCat ((⟨#[105, 110, 32, 97, 44, 40]⟩ : ByteArray) ++ t59).size (⟨#[41]⟩ : ByteArray).size) ((text_shown_hl_146.f K p0_0_0 p0_0_1 p0_0_2 p0_0_3 p0_0_4 p0_0_5 p0_1 p0_2 p0_3 p0_4 p0_5).bind fun t63 => cond (mayCat (⟨#[101, 120, 32, 40, 115, 112, 41, 44]⟩ : ByteArray).size t63.size) (cond (inR p0_2 8) (some (rdD ([((⟨#[106, 112, 32]⟩ : ByteArray) ++ t52), (⟨#[112, 114, 101, 102, 105, 120]⟩ : ByteArray), (((⟨#[111, 117, 116, 32, 40]⟩ : ByteArray) ++ t55) ++ (⟨#[41, 44, 97]⟩ : ByteArray)), (((⟨#[105, 110, 32, 97, 44, 40]⟩ : ByteArray) ++ t59) ++ (⟨#[41]⟩ : ByteArray)), ((⟨#[101, 120, 32, 40, 115, 112, 41, 44]⟩ : ByteArray) ++ t63), (⟨#[101, 120, 32, 100, 101, 44, 104, 108]⟩ : ByteArray), (⟨#[100, 105]⟩ : ByteArray), (⟨#[101, 105]⟩ : ByteArray)] : List ByteArray) p0_2)) none) none) none) none) none) none) none) (cond (p0_3 == 4) (cond (inR p0_2 8) (cond (mayCat (⟨#[99, 97, 108, 108, 32]⟩ : ByteArray).size (rdD tab_1 p0_2).size) (cond (mayCat ((⟨#[99, 97, 108, 108, 32]⟩ : ByteArray) ++ (rdD tab_1 p0_2)).size (⟨#[44]⟩ : ByteArray).size) ((text_shown_nn_148.f K p0_0_0 p0_0_1 p0_0_2 p0_0_3 p0_0_4 p0_0_5 p0_1 p0_2 p0_3 p0_4 p0_5).bind fun t78 => cond (mayCat (((⟨#[99, 97, 108, 108, 32]⟩ : ByteArray) ++ (rdD tab_1 p0_2)) ++ (⟨#[44]⟩ : ByteArray)).size t78.size) (some ((((⟨#[99, 97, 108, 108, 32]⟩ : ByteArray) ++ (rdD tab_1 p0_2)) ++ (⟨#[44]⟩ : ByteArray)) ++ t78)) none) none) none) none) (cond (p0_3 == 5) (cond (p0_5 == 0) ((text_shown_pair_147.f K p0_0_0 p0_0_1 p0_0_2 p0_0_3 p0_0_4 p0_0_5 p0_1 p0_2 p0_3 p0_4 p0_5 p0_4 true).bind fun t89 => cond (mayCat (⟨#[112, 117, 115, 104, 32]⟩ : ByteArray).size t89.size) (some ((⟨#[112, 117, 115, 104, 32]⟩ : ByteArray) ++ t89)) none) (cond (p0_4 == 0) ((text_shown_nn_148.f K p0_0_0 p0_0_1 p0_0_2 p0_0_3 p0_0_4 p0_0_5 p0_1 p0_2 p0_3 p0_4 p0_5).bind fun t96 => cond (mayCat (⟨#[99, 97, 108, 108, 32]⟩ : ByteArray).size t96.size) (some ((⟨#[99, 97, 108, 108, 32]⟩ : ByteArray) ++ t96)) none) (some (⟨#[112, 114, 101, 102, 105, 120]⟩ : ByteArray)))) (cond (p0_3 == 6) (cond (inR p0_2 8) ((text_shown_n_151.f K p0_0_0 p0_0_1 p0_0_2 p0_0_3 p0_0_4 p0_0_5 p0_1 p0_2 p0_3 p0_4 p0_5).bind fun t105 => cond (mayCat (rdD tab_3 p0_2).size t105.size) (some ((rdD tab_3 p0_2) ++ t105)) none) none) ((text_Hex_37.f K (IntKind.wrap .i64 (8 * p0_2)) 2).bind fun t114 => cond (mayCat (⟨#[114, 115, 116, 32]⟩ : ByteArray).size t114.size) (some ((⟨#[114, 115, 116, 32]⟩ : ByteArray) ++ t114)) none)))))))
theorem text_shown_high_97_ok (K : Nat) (M0 : Nat → Prop) (w0 : World) (a0 : Int) (a1 : Int) (a2 : Int) (a3 : Int) (a4 : Int) (a5 : Int) (a6 : Int) (a7 : Int) (a8 : Int) (a9 : Int) (d0 : Int) (ho : ∀ b, M0 b → b < w0.heap.size) (hG1 : G1.ok w0 M0) (hG3 : G3.ok w0 M0) (hG7 : G7.ok w0 M0) (hG12 : G12.ok w0 M0) (hG15 : G15.ok w0 M0) (hG16 : G16.ok w0 M0) {r : ByteArray} (h : text_shown_high_97.f K a0 a1 a2 a3 a4 a5 a6 a7 a8 a9 d0 = some r) :
  Calls Tryz.prog 97 #[.agg #[iA a0, iB a1, iB a2, iC a3, iA a4, iA a5, iA a6, iA a7, iA a8, iA a9, iA d0]] w0 (text_shown_high_97.post M0 w0 r) := by
 unfold text_shown_high_97.f at h
 have h0 : Holds M0 w0 w0 [] := Holds.start ho
 have h0g1 := h0.aG hG1
 have h0g3 := h0g1.aG hG3
 have h0g7 := h0g3.aG hG7
 have h0g12 := h0g7.aG hG12
 have h0g15 := h0g12.aG hG15
 have h0g16 := h0g15.aG hG16
 have h0 : Holds M0 w0 w0 [G1, G3, G7, G12, G15, G16] := h0g16
 refine calls_of F97 rfl [.agg #[iA a0, iB a1, iB a2, iC a3, iA a4, iA a5, iA a6, iA a7, iA a8, iA a9, iA d0]] (by kernel_rfl) (Xg 1 [.c 1, .c 2] (Xr (Yx 1 126 [iA a0, iB a1, iB a2, iC a3, iA a4, iA a5, iA a6, iA a7, iA a8, iA a9, iA d0] h0 ?_)))
 intro w1 b2 h3 hb4 hn5
 refine Yp 1 [(1, pt b2)] (Zy 2 4 [.c 5, .c 72] 1 [1, 3] [(3, pu b2 8)] (Ya 4 6 3 b2 8 (iA a8) h3 rfl (Zy 2 7 [.c 8, .blk 0, .c 72] 2 [1, 4, 5] [(4, iA a8), (5, tB (a8 == 0))] (Ye (Vc 5 9 12 h (fun hc6 h => ?_) fun hc6 h => ?_)))))
 ·refine Xq 1 10 [.c 11, .blk 0, .c 72] 1 [(7, pu b2 7)] (Ya 8 6 3 b2 7 (iA a7) h3 rfl ?_)
  have ⟨hc7, h⟩ := oz h
  refine Yo (OpE.run 9 (by kernel_rfl) (run_idxArr (T := 169) (b := 1) (o := 0) (ix := a7) (len := 8) (s := 1) (by kernel_rfl) (by kernel_rfl) hc7) (Yo (OpE.loadTab 10 0 9 en_1 tab_1 0 1 a7 (tS (rdD tab_1 a7)) (o := 0 + (Int.toNat a7) * 1 + 0) h3 (by kernel_rfl) rfl (fun _ => rfl) (by kernel_rfl) (by omega) hc7 (fun _ => by kernel_rfl) ?_)))
  have ⟨hc8, h⟩ := oz h
  refine Yt 11 sf34 (rdD tab_1 a7) hc8 (Yd 1 [(2, tS (sf34 ++ (rdD tab_1 a7)))] ?_)
  obtain rfl := sI h
  exact Xt (tS (sf34 ++ (rdD tab_1 a7))) ⟨rfl, h3.below⟩
 ·refine Xd 1 13 [.c 14, .blk 0, .c 72] 2 [(1, pt b2), (4, iA a8), (12, tB (a8 == 1))] (Vc 12 15 26 h (fun hc9 h => ?_) fun hc9 h => ?_)
  ·refine Xq 2 17 [.c 18, .c 23, .blk 0, .c 72] 1 [(1, pt b2), (14, pu b2 10)] (Ya 15 6 3 b2 10 (iA d0) h3 rfl (Zd 1 [1, 16] [(16, tB (d0 == 0))] (Vc 16 19 22 h (fun hc10 h => ?_) fun hc10 h => ?_)))
   ·refine Xg 1 [.c 20, .c 21, .c 23, .blk 0, .c 72] (Xr (Ya 17 6 126 b2 0 (.agg #[iA a0, iB a1, iB a2, iC a3, iA a4, iA a5, iA a6, iA a7, iA a8, iA a9, iA d0]) h3 rfl (Yp 1 [(17, .agg #[iA a0, iB a1, iB a2, iC a3, iA a4, iA a5, iA a6, iA a7, iA a8, iA a9, iA d0]), (18, pu b2 9)] (Ya 19 6 3 b2 9 (iA a9) h3 rfl ?_))))
    obtain ⟨t15, hg14, h⟩ := of_bind h
    refine Yc 20 147 #[.agg #[iA a0, iB a1, iB a2, iC a3, iA a4, iA a5, iA a6, iA a7, iA a8, iA a9, iA d0], iA a9, tB true] ((text_shown_pair_147_ok K _ w1  a0 a1 a2 a3 a4 a5 a6 a7 a8 a9 d0 a9 true h3.old' (h3.get 2 rfl) hg14).mono ?_)
    rintro _ w11 ⟨rfl, hb12⟩
    refine ⟨_, rfl, ?_⟩
    have h13 := h3.call hb12
    have ⟨hc16, h⟩ := oz h
    refine Yt 21 sf35 t15 hc16 (Yd 1 [(2, tS (sf35 ++ t15))] ?_)
    obtain rfl := sI h
    exact Xt (tS (sf35 ++ t15)) ⟨rfl, h13.below⟩
   ·refine Xg 1 [.c 23, .blk 0, .c 72] (Xg 1 [.c 24, .c 25, .blk 0, .c 72] (RunsI.any 12 (by kernel_rfl) (by kernel_rfl) (by kernel_rfl) (Kp ([] : List Nat) (World.drew w1)) ?_))
    have h18 := h3.drew
    generalize World.drew w1 = w17 at h18 ⊢
    have hS19 := Kp.refl ([] : List Nat) w17
    refine Wa 0 22 6 126 b2 0 (.agg #[iA a0, iB a1, iB a2, iC a3, iA a4, iA a5, iA a6, iA a7, iA a8, iA a9, iA d0]) [] h18 rfl hS19 rfl ?_
    obtain ⟨t22, hg21, h⟩ := of_bind h
    refine Wc 1 23 (tS t22) 146 #[.agg #[iA a0, iB a1, iB a2, iC a3, iA a4, iA a5, iA a6, iA a7, iA a8, iA a9, iA d0]] hS19 (fun w hk => text_shown_hl_146_ok K (fun _ => False) w a0 a1 a2 a3 a4 a5 a6 a7 a8 a9 d0 nF (gF (h18.atI [] rfl hk 2 rfl rfl)) hg21) ?_
    have ⟨hc23, h⟩ := oz h
    refine Wt 2 24 sf7 t22 hS19 hc23 ?_
    have ⟨hc24, h⟩ := oz h
    refine Wt 3 25 (sf7 ++ t22) sf2 hS19 hc24 (Wa 4 26 6 126 b2 0 (.agg #[iA a0, iB a1, iB a2, iC a3, iA a4, iA a5, iA a6, iA a7, iA a8, iA a9, iA d0]) [] h18 rfl hS19 rfl ?_)
    obtain ⟨t26, hg25, h⟩ := of_bind h
    refine Wc 5 27 (tS t26) 146 #[.agg #[iA a0, iB a1, iB a2, iC a3, iA a4, iA a5, iA a6, iA a7, iA a8, iA a9, iA d0]] hS19 (fun w hk => text_shown_hl_146_ok K (fun _ => False) w a0 a1 a2 a3 a4 a5 a6 a7 a8 a9 d0 nF (gF (h18.atI [] rfl hk 2 rfl rfl)) hg25) ?_
    have ⟨hc27, h⟩ := oz h
    refine Wt 6 28 sf13 t26 hS19 hc27 (Wu 7 29 (.agg (List.flatMap (fun (x : ByteArray) => ([tS x] : List Value)) ([sf21, sf22, ((sf7 ++ t22) ++ sf2), (sf13 ++ t26)] : List ByteArray)).toArray) hS19 (Wu 8 30 (pu b2 9) hS19 (Wa 9 31 6 3 b2 9 (iA a9) [] h18 rfl hS19 rfl ?_)))
    have ⟨hc28, h⟩ := oz h
    refine AnyE.run 10 32 (tS (rdD ([sf21, sf22, ((sf7 ++ t22) ++ sf2), (sf13 ++ t26)] : List ByteArray) a9)) (by kernel_rfl) hS19 (fun _ hk => run_indexTab (T0 := 170) (en := (fun (x : ByteArray) => ([tS x] : List Value))) (tab := ([sf21, sf22, ((sf7 ++ t22) ++ sf2), (sf13 ++ t26)] : List ByteArray)) (len := 4) (sz := 1) (j := a9) (v := tS (rdD ([sf21, sf22, ((sf7 ++ t22) ++ sf2), (sf13 ++ t26)] : List ByteArray) a9)) (fun _ => rfl) (by kernel_rfl) (by kernel_rfl) rfl hc28 (fun _ => by kernel_rfl)) (Wu 11 2 (tS (rdD ([sf21, sf22, ((sf7 ++ t22) ++ sf2), (sf13 ++ t26)] : List ByteArray) a9)) hS19 (AnyE.done (by kernel_rfl) (fun w29 hu30 => ?_)))
    have h31 := h18.call hu30
    refine Vl [(2, tS (rdD ([sf21, sf22, ((sf7 ++ t22) ++ sf2), (sf13 ++ t26)] : List ByteArray) a9))] ?_
    obtain rfl := sI h
    exact Xt (tS (rdD ([sf21, sf22, ((sf7 ++ t22) ++ sf2), (sf13 ++ t26)] : List ByteArray) a9)) ⟨rfl, h31.below⟩
  ·refine Xd 1 27 [.c 28, .blk 0, .c 72] 2 [(1, pt b2), (4, iA a8), (33, tB (a8 == 2))] (Vc 33 29 32 h (fun hc32 h => ?_) fun hc32 h => ?_)
   ·refine Xg 1 [.c 30, .c 31, .blk 0, .c 72] (RunsI.any 10 (by kernel_rfl) (by kernel_rfl) (by kernel_rfl) (Kp ([] : List Nat) (World.drew w1)) ?_)
    have h34 := h3.drew
    generalize World.drew w1 = w33 at h34 ⊢
    have hS35 := Kp.refl ([] : List Nat) w33
    refine Wu 0 35 (pu b2 7) hS35 (Wa 1 36 6 3 b2 7 (iA a7) [] h34 rfl hS35 rfl ?_)
    have ⟨hc37, h⟩ := oz h
    refine AnyE.run 2 37 (.pointer (some ⟨1, 0 + (Int.toNat a7) * 1, none⟩)) (by kernel_rfl) hS35 (fun _ hk => run_idxArr (T := 169) (b := 1) (o := 0) (ix := a7) (len := 8) (s := 1) (by kernel_rfl) (by kernel_rfl) hc37) (AnyE.loadTab 3 38 0 9 en_1 tab_1 0 1 a7 (tS (rdD tab_1 a7)) [] (o := 0 + (Int.toNat a7) * 1 + 0) h34 rfl (by kernel_rfl) hS35 rfl rfl (fun _ => rfl) (by kernel_rfl) (by omega) hc37 (fun _ => by kernel_rfl) ?_)
    have ⟨hc38, h⟩ := oz h
    refine Wt 4 39 sf6 (rdD tab_1 a7) hS35 hc38 ?_
    have ⟨hc39, h⟩ := oz h
    refine Wt 5 40 (sf6 ++ (rdD tab_1 a7)) sf0 hS35 hc39 (Wa 6 41 6 126 b2 0 (.agg #[iA a0, iB a1, iB a2, iC a3, iA a4, iA a5, iA a6, iA a7, iA a8, iA a9, iA d0]) [] h34 rfl hS35 rfl ?_)
    obtain ⟨t41, hg40, h⟩ := of_bind h
    refine Wc 7 42 (tS t41) 148 #[.agg #[iA a0, iB a1, iB a2, iC a3, iA a4, iA a5, iA a6, iA a7, iA a8, iA a9, iA d0]] hS35 (fun w hk => text_shown_nn_148_ok K (fun _ => False) w a0 a1 a2 a3 a4 a5 a6 a7 a8 a9 d0 nF (gF (h34.atI [] rfl hk 3 rfl rfl)) (gF (h34.atI [] rfl hk 4 rfl rfl)) (gF (h34.atI [] rfl hk 5 rfl rfl)) hg40) ?_
    have ⟨hc42, h⟩ := oz h
    refine Wt 8 43 ((sf6 ++ (rdD tab_1 a7)) ++ sf0) t41 hS35 hc42 (Wu 9 2 (tS (((sf6 ++ (rdD tab_1 a7)) ++ sf0) ++ t41)) hS35 (AnyE.done (by kernel_rfl) (fun w43 hu44 => ?_)))
    have h45 := h34.call hu44
    refine Vl [(2, tS (((sf6 ++ (rdD tab_1 a7)) ++ sf0) ++ t41))] ?_
    obtain rfl := sI h
    exact Xt (tS (((sf6 ++ (rdD tab_1 a7)) ++ sf0) ++ t41)) ⟨rfl, h45.below⟩
   ·refine Xd 1 33 [.c 34, .blk 0, .c 72] 2 [(1, pt b2), (4, iA a8), (44, tB (a8 == 3))] (Vc 44 35 38 h (fun hc46 h => ?_) fun hc46 h => ?_)
    ·refine Xg 1 [.c 36, .c 37, .blk 0, .c 72] (RunsI.any 19 (by kernel_rfl) (by kernel_rfl) (by kernel_rfl) (Kp ([] : List Nat) (World.drew w1)) ?_)
     have h48 := h3.drew
     generalize World.drew w1 = w47 at h48 ⊢
     have hS49 := Kp.refl ([] : List Nat) w47
     refine Wa 0 46 6 126 b2 0 (.agg #[iA a0, iB a1, iB a2, iC a3, iA a4, iA a5, iA a6, iA a7, iA a8, iA a9, iA d0]) [] h48 rfl hS49 rfl ?_
     obtain ⟨t52, hg51, h⟩ := of_bind h
     refine Wc 1 47 (tS t52) 148 #[.agg #[iA a0, iB a1, iB a2, iC a3, iA a4, iA a5, iA a6, iA a7, iA a8, iA a9, iA d0]] hS49 (fun w hk => text_shown_nn_148_ok K (fun _ => False) w a0 a1 a2 a3 a4 a5 a6 a7 a8 a9 d0 nF (gF (h48.atI [] rfl hk 3 rfl rfl)) (gF (h48.atI [] rfl hk 4 rfl rfl)) (gF (h48.atI [] rfl hk 5 rfl rfl)) hg51) ?_
     have ⟨hc53, h⟩ := oz h
     refine Wt 2 48 sf6 t52 hS49 hc53 (Wa 3 49 6 126 b2 0 (.agg #[iA a0, iB a1, iB a2, iC a3, iA a4, iA a5, iA a6, iA a7, iA a8, iA a9, iA d0]) [] h48 rfl hS49 rfl ?_)
     obtain ⟨t55, hg54, h⟩ := of_bind h
     refine Wc 4 50 (tS t55) 151 #[.agg #[iA a0, iB a1, iB a2, iC a3, iA a4, iA a5, iA a6, iA a7, iA a8, iA a9, iA d0]] hS49 (fun w hk => text_shown_n_151_ok K (fun _ => False) w a0 a1 a2 a3 a4 a5 a6 a7 a8 a9 d0 nF (gF (h48.atI [] rfl hk 3 rfl rfl)) (gF (h48.atI [] rfl hk 4 rfl rfl)) (gF (h48.atI [] rfl hk 5 rfl rfl)) hg54) ?_
     have ⟨hc56, h⟩ := oz h
     refine Wt 5 51 sf8 t55 hS49 hc56 ?_
     have ⟨hc57, h⟩ := oz h
     refine Wt 6 52 (sf8 ++ t55) sf14 hS49 hc57 (Wa 7 53 6 126 b2 0 (.agg #[iA a0, iB a1, iB a2, iC a3, iA a4, iA a5, iA a6, iA a7, iA a8, iA a9, iA d0]) [] h48 rfl hS49 rfl ?_)
     obtain ⟨t59, hg58, h⟩ := of_bind h
     refine Wc 8 54 (tS t59) 151 #[.agg #[iA a0, iB a1, iB a2, iC a3, iA a4, iA a5, iA a6, iA a7, iA a8, iA a9, iA d0]] hS49 (fun w hk => text_shown_n_151_ok K (fun _ => False) w a0 a1 a2 a3 a4 a5 a6 a7 a8 a9 d0 nF (gF (h48.atI [] rfl hk 3 rfl rfl)) (gF (h48.atI [] rfl hk 4 rfl rfl)) (gF (h48.atI [] rfl hk 5 rfl rfl)) hg58) ?_
     have ⟨hc60, h⟩ := oz h
     refine Wt 9 55 sf9 t59 hS49 hc60 ?_
     have ⟨hc61, h⟩ := oz h
     refine Wt 10 56 (sf9 ++ t59) sf2 hS49 hc61 (Wa 11 57 6 126 b2 0 (.agg #[iA a0, iB a1, iB a2, iC a3, iA a4, iA a5, iA a6, iA a7, iA a8, iA a9, iA d0]) [] h48 rfl hS49 rfl ?_)
     obtain ⟨t63, hg62, h⟩ := of_bind h
     refine Wc 12 58 (tS t63) 146 #[.agg #[iA a0, iB a1, iB a2, iC a3, iA a4, iA a5, iA a6, iA a7, iA a8, iA a9, iA d0]] hS49 (fun w hk => text_shown_hl_146_ok K (fun _ => False) w a0 a1 a2 a3 a4 a5 a6 a7 a8 a9 d0 nF (gF (h48.atI [] rfl hk 2 rfl rfl)) hg62) ?_
     have ⟨hc64, h⟩ := oz h
     refine Wt 13 59 sf15 t63 hS49 hc64 (Wu 14 60 (.agg (List.flatMap (fun (x : ByteArray) => ([tS x] : List Value)) ([(sf6 ++ t52), sf10, ((sf8 ++ t55) ++ sf14), ((sf9 ++ t59) ++ sf2), (sf15 ++ t63), sf23, sf24, sf25] : List ByteArray)).toArray) hS49 (Wu 15 61 (pu b2 7) hS49 (Wa 16 62 6 3 b2 7 (iA a7) [] h48 rfl hS49 rfl ?_)))
     have ⟨hc65, h⟩ := oz h
     refine AnyE.run 17 63 (tS (rdD ([(sf6 ++ t52), sf10, ((sf8 ++ t55) ++ sf14), ((sf9 ++ t59) ++ sf2), (sf15 ++ t63), sf23, sf24, sf25] : List ByteArray) a7)) (by kernel_rfl) hS49 (fun _ hk => run_indexTab (T0 := 169) (en := (fun (x : ByteArray) => ([tS x] : List Value))) (tab := ([(sf6 ++ t52), sf10, ((sf8 ++ t55) ++ sf14), ((sf9 ++ t59) ++ sf2), (sf15 ++ t63), sf23, sf24, sf25] : List ByteArray)) (len := 8) (sz := 1) (j := a7) (v := tS (rdD ([(sf6 ++ t52), sf10, ((sf8 ++ t55) ++ sf14), ((sf9 ++ t59) ++ sf2), (sf15 ++ t63), sf23, sf24, sf25] : List ByteArray) a7)) (fun _ => rfl) (by kernel_rfl) (by kernel_rfl) rfl hc65 (fun _ => by kernel_rfl)) (Wu 18 2 (tS (rdD ([(sf6 ++ t52), sf10, ((sf8 ++ t55) ++ sf14), ((sf9 ++ t59) ++ sf2), (sf15 ++ t63), sf23, sf24, sf25] : List ByteArray) a7)) hS49 (AnyE.done (by kernel_rfl) (fun w66 hu67 => ?_)))
     have h68 := h48.call hu67
     refine Vl [(2, tS (rdD ([(sf6 ++ t52), sf10, ((sf8 ++ t55) ++ sf14), ((sf9 ++ t59) ++ sf2), (sf15 ++ t63), sf23, sf24, sf25] : List ByteArray) a7))] ?_
     obtain rfl := sI h
     exact Xt (tS (rdD ([(sf6 ++ t52), sf10, ((sf8 ++ t55) ++ sf14), ((sf9 ++ t59) ++ sf2), (sf15 ++ t63), sf23, sf24, sf25] : List ByteArray) a7)) ⟨rfl, h68.below⟩
    ·refine Xd 1 39 [.c 40, .blk 0, .c 72] 2 [(1, pt b2), (4, iA a8), (64, tB (a8 == 4))] (Vc 64 41 44 h (fun hc69 h => ?_) fun hc69 h => ?_)
     ·refine Xg 1 [.c 42, .c 43, .blk 0, .c 72] (RunsI.any 10 (by kernel_rfl) (by kernel_rfl) (by kernel_rfl) (Kp ([] : List Nat) (World.drew w1)) ?_)
      have h71 := h3.drew
      generalize World.drew w1 = w70 at h71 ⊢
      have hS72 := Kp.refl ([] : List Nat) w70
      refine Wu 0 66 (pu b2 7) hS72 (Wa 1 67 6 3 b2 7 (iA a7) [] h71 rfl hS72 rfl ?_)
      have ⟨hc74, h⟩ := oz h
      refine AnyE.run 2 68 (.pointer (some ⟨1, 0 + (Int.toNat a7) * 1, none⟩)) (by kernel_rfl) hS72 (fun _ hk => run_idxArr (T := 169) (b := 1) (o := 0) (ix := a7) (len := 8) (s := 1) (by kernel_rfl) (by kernel_rfl) hc74) (AnyE.loadTab 3 69 0 9 en_1 tab_1 0 1 a7 (tS (rdD tab_1 a7)) [] (o := 0 + (Int.toNat a7) * 1 + 0) h71 rfl (by kernel_rfl) hS72 rfl rfl (fun _ => rfl) (by kernel_rfl) (by omega) hc74 (fun _ => by kernel_rfl) ?_)
      have ⟨hc75, h⟩ := oz h
      refine Wt 4 70 sf11 (rdD tab_1 a7) hS72 hc75 ?_
      have ⟨hc76, h⟩ := oz h
      refine Wt 5 71 (sf11 ++ (rdD tab_1 a7)) sf0 hS72 hc76 (Wa 6 72 6 126 b2 0 (.agg #[iA a0, iB a1, iB a2, iC a3, iA a4, iA a5, iA a6, iA a7, iA a8, iA a9, iA d0]) [] h71 rfl hS72 rfl ?_)
      obtain ⟨t78, hg77, h⟩ := of_bind h
      refine Wc 7 73 (tS t78) 148 #[.agg #[iA a0, iB a1, iB a2, iC a3, iA a4, iA a5, iA a6, iA a7, iA a8, iA a9, iA d0]] hS72 (fun w hk => text_shown_nn_148_ok K (fun _ => False) w a0 a1 a2 a3 a4 a5 a6 a7 a8 a9 d0 nF (gF (h71.atI [] rfl hk 3 rfl rfl)) (gF (h71.atI [] rfl hk 4 rfl rfl)) (gF (h71.atI [] rfl hk 5 rfl rfl)) hg77) ?_
      have ⟨hc79, h⟩ := oz h
      refine Wt 8 74 ((sf11 ++ (rdD tab_1 a7)) ++ sf0) t78 hS72 hc79 (Wu 9 2 (tS (((sf11 ++ (rdD tab_1 a7)) ++ sf0) ++ t78)) hS72 (AnyE.done (by kernel_rfl) (fun w80 hu81 => ?_)))
      have h82 := h71.call hu81
      refine Vl [(2, tS (((sf11 ++ (rdD tab_1 a7)) ++ sf0) ++ t78))] ?_
      obtain rfl := sI h
      exact Xt (tS (((sf11 ++ (rdD tab_1 a7)) ++ sf0) ++ t78)) ⟨rfl, h82.below⟩
     ·refine Xd 1 45 [.c 46, .blk 0, .c 72] 2 [(1, pt b2), (4, iA a8), (75, tB (a8 == 5))] (Vc 75 47 65 h (fun hc83 h => ?_) fun hc83 h => ?_)
      ·refine Xq 3 50 [.c 51, .blk 1, .c 62, .blk 0, .c 72] 1 [(1, pt b2), (78, pu b2 10)] (Ya 79 6 3 b2 10 (iA d0) h3 rfl (Zd 2 [1, 77] [(77, tB (d0 == 0))] (Vc 77 52 55 h (fun hc84 h => ?_) fun hc84 h => ?_)))
       ·refine Xg 1 [.c 53, .c 54, .blk 1, .c 62, .blk 0, .c 72] (Xr (Ya 81 6 126 b2 0 (.agg #[iA a0, iB a1, iB a2, iC a3, iA a4, iA a5, iA a6, iA a7, iA a8, iA a9, iA d0]) h3 rfl (Yp 1 [(81, .agg #[iA a0, iB a1, iB a2, iC a3, iA a4, iA a5, iA a6, iA a7, iA a8, iA a9, iA d0]), (82, pu b2 9)] (Ya 83 6 3 b2 9 (iA a9) h3 rfl ?_))))
        obtain ⟨t89, hg88, h⟩ := of_bind h
        refine Yc 84 147 #[.agg #[iA a0, iB a1, iB a2, iC a3, iA a4, iA a5, iA a6, iA a7, iA a8, iA a9, iA d0], iA a9, tB true] ((text_shown_pair_147_ok K _ w1  a0 a1 a2 a3 a4 a5 a6 a7 a8 a9 d0 a9 true h3.old' (h3.get 2 rfl) hg88).mono ?_)
        rintro _ w85 ⟨rfl, hb86⟩
        refine ⟨_, rfl, ?_⟩
        have h87 := h3.call hb86
        have ⟨hc90, h⟩ := oz h
        refine Yt 85 sf36 t89 hc90 (Yd 1 [(2, tS (sf36 ++ t89))] ?_)
        obtain rfl := sI h
        exact Xt (tS (sf36 ++ t89)) ⟨rfl, h87.below⟩
       ·refine Xq 1 56 [.c 57, .blk 1, .c 62, .blk 0, .c 72] 1 [(1, pt b2), (87, pu b2 9)] (Ya 88 6 3 b2 9 (iA a9) h3 rfl (Zd 2 [1, 86] [(86, tB (a9 == 0))] (Vc 86 58 61 h (fun hc91 h => ?_) fun hc91 h => ?_)))
        ·refine Xg 1 [.c 59, .c 60, .blk 1, .c 62, .blk 0, .c 72] (Xr (Ya 90 6 126 b2 0 (.agg #[iA a0, iB a1, iB a2, iC a3, iA a4, iA a5, iA a6, iA a7, iA a8, iA a9, iA d0]) h3 rfl ?_))
         obtain ⟨t96, hg95, h⟩ := of_bind h
         refine Yc 91 148 #[.agg #[iA a0, iB a1, iB a2, iC a3, iA a4, iA a5, iA a6, iA a7, iA a8, iA a9, iA d0]] ((text_shown_nn_148_ok K _ w1  a0 a1 a2 a3 a4 a5 a6 a7 a8 a9 d0 h3.old' (h3.get 3 rfl) (h3.get 4 rfl) (h3.get 5 rfl) hg95).mono ?_)
         rintro _ w92 ⟨rfl, hb93⟩
         refine ⟨_, rfl, ?_⟩
         have h94 := h3.call hb93
         have ⟨hc97, h⟩ := oz h
         refine Yt 92 sf11 t96 hc97 (Yd 1 [(2, tS (sf11 ++ t96))] ?_)
         obtain rfl := sI h
         exact Xt (tS (sf11 ++ t96)) ⟨rfl, h94.below⟩
        ·refine Xg 1 [.blk 1, .c 62, .blk 0, .c 72] (Xd 2 63 [.c 64, .blk 0, .c 72] 1 [(2, tS sf10)] ?_)
         obtain rfl := sI h
         exact Xt (tS sf10) ⟨rfl, h3.below⟩
      ·refine Xd 1 66 [.c 67, .blk 0, .c 72] 2 [(1, pt b2), (93, tB (a8 == 6))] (Vc 93 68 71 h (fun hc98 h => ?_) fun hc98 h => ?_)
       ·refine Xg 1 [.c 69, .c 70, .blk 0, .c 72] (RunsI.any 8 (by kernel_rfl) (by kernel_rfl) (by kernel_rfl) (Kp ([] : List Nat) (World.drew w1)) ?_)
        have h100 := h3.drew
        generalize World.drew w1 = w99 at h100 ⊢
        have hS101 := Kp.refl ([] : List Nat) w99
        refine Wu 0 95 (pu b2 7) hS101 (Wa 1 96 6 3 b2 7 (iA a7) [] h100 rfl hS101 rfl ?_)
        have ⟨hc103, h⟩ := oz h
        refine AnyE.run 2 97 (.pointer (some ⟨3, 0 + (Int.toNat a7) * 1, none⟩)) (by kernel_rfl) hS101 (fun _ hk => run_idxArr (T := 169) (b := 3) (o := 0) (ix := a7) (len := 8) (s := 1) (by kernel_rfl) (by kernel_rfl) hc103) (AnyE.loadTab 3 98 1 9 en_3 tab_3 0 1 a7 (tS (rdD tab_3 a7)) [] (o := 0 + (Int.toNat a7) * 1 + 0) h100 rfl (by kernel_rfl) hS101 rfl rfl (fun _ => rfl) (by kernel_rfl) (by omega) hc103 (fun _ => by kernel_rfl) (Wa 4 99 6 126 b2 0 (.agg #[iA a0, iB a1, iB a2, iC a3, iA a4, iA a5, iA a6, iA a7, iA a8, iA a9, iA d0]) [] h100 rfl hS101 rfl ?_))
        obtain ⟨t105, hg104, h⟩ := of_bind h
        refine Wc 5 100 (tS t105) 151 #[.agg #[iA a0, iB a1, iB a2, iC a3, iA a4, iA a5, iA a6, iA a7, iA a8, iA a9, iA d0]] hS101 (fun w hk => text_shown_n_151_ok K (fun _ => False) w a0 a1 a2 a3 a4 a5 a6 a7 a8 a9 d0 nF (gF (h100.atI [] rfl hk 3 rfl rfl)) (gF (h100.atI [] rfl hk 4 rfl rfl)) (gF (h100.atI [] rfl hk 5 rfl rfl)) hg104) ?_
        have ⟨hc106, h⟩ := oz h
        refine Wt 6 101 (rdD tab_3 a7) t105 hS101 hc106 (Wu 7 2 (tS ((rdD tab_3 a7) ++ t105)) hS101 (AnyE.done (by kernel_rfl) (fun w107 hu108 => ?_)))
        have h109 := h100.call hu108
        refine Vl [(2, tS ((rdD tab_3 a7) ++ t105))] ?_
        obtain rfl := sI h
        exact Xt (tS ((rdD tab_3 a7) ++ t105)) ⟨rfl, h109.below⟩
       ·refine Xg 1 [.blk 0, .c 72] (Xq 2 73 [.c 74] 1 [(102, pu b2 7)] (Ya 103 6 3 b2 7 (iA a7) h3 rfl (Yp 1 [(104, iA (wA (8 * a7)))] ?_)))
        obtain ⟨t114, hg113, h⟩ := of_bind h
        refine Yc 105 37 #[iA (wA (8 * a7)), iA 2] ((text_Hex_37_ok K _ w1  (wA (8 * a7)) 2 h3.old' (h3.get 3 rfl) (h3.get 4 rfl) (h3.get 5 rfl) hg113).mono ?_)
        rintro _ w110 ⟨rfl, hb111⟩
        refine ⟨_, rfl, ?_⟩
        have h112 := h3.call hb111
        have ⟨hc115, h⟩ := oz h
        refine Yt 106 sf37 t114 hc115 (Yd 1 [(2, tS (sf37 ++ t114))] ?_)
        obtain rfl := sI h
        exact Xt (tS (sf37 ++ t114)) ⟨rfl, h112.below⟩
end

section
abbrev text_shown_far_98.post := pS
def text_shown_far_98.f (K : Nat) (p0_0_0 : Int) (p0_0_1 : Int) (p0_0_2 : Int) (p0_0_3 : Int) (p0_0_4 : Int) (p0_0_5 : Int) (p0_1 : Int) (p0_2 : Int) (p0_3 : Int) (p0_4 : Int) (p0_5 : Int) : Option ByteArray := Let (fun (t8 : Bool) => cond t8 (Let (fun (t16 : Bool) => cond t16 (cond (inR (IntKind.wrap .i64 (p0_2 - 4)) 4) (cond (mayCat (⟨#[111, 117, 116]⟩ : ByteArray).size (rdD tab_4 (IntKind.wrap .i64 (p0_2 - 4))).size) (some ((⟨#[111, 117, 116]⟩ : ByteArray) ++ (rdD tab_4 (IntKind.wrap .i64 (p0_2 - 4))))) none) none) (cond (inR p0_3 4) (cond (inR (IntKind.wrap .i64 (p0_2 - 4)) 4) (cond (mayCat (rdD tab_5 p0_3).size (rdD tab_4 (IntKind.wrap .i64 (p0_2 - 4))).size) (some ((rdD tab_5 p0_3) ++ (rdD tab_4 (IntKind.wrap .i64 (p0_2 - 4))))) none) none) none)) (fun j19 => cond (p0_3 == 3) (j19 (decide (p0_2 < 6))) (j19 false))) (cond (p0_1 != 1) (some (⟨#[110, 111, 112, 42]⟩ : ByteArray)) (cond (inR p0_2 8) (cond (p0_3 == 0) (cond (p0_2 == 6) (cond (mayCat (⟨#[105, 110, 32]⟩ : ByteArray).size (⟨#[102]⟩ : ByteArray).size) (cond (mayCat ((⟨#[105, 110, 32]⟩ : ByteArray) ++ (⟨#[102]⟩ : ByteArray)).size (⟨#[44, 40, 99, 41]⟩ : ByteArray).size) (some (((⟨#[105, 110, 32]⟩ : ByteArray) ++ (⟨#[102]⟩ : ByteArray)) ++ (⟨#[44, 40, 99, 41]⟩ : ByteArray))) none) none) (cond (mayCat (⟨#[105, 110, 32]⟩ : ByteArray).size (rdD tab_6 p0_2).size) (cond (mayCat ((⟨#[105, 110, 32]⟩ : ByteArray) ++ (rdD tab_6 p0_2)).size (⟨#[44, 40, 99, 41]⟩ : ByteArray).size) (some (((⟨#[105, 110, 32]⟩ : ByteArray) ++ (rdD tab_6 p0_2)) ++ (⟨#[44, 40, 99, 41]⟩ : ByteArray))) none) none)) (cond (p0_3 == 1) (cond (p0_2 == 6) (cond (mayCat (⟨#[111, 117, 116, 32, 40, 99, 41, 44]⟩ : ByteArray).size (⟨#[48]⟩ : ByteArray).size) (some ((⟨#[111, 117, 116, 32, 40, 99, 41, 44]⟩ : ByteArray) ++ (⟨#[48]⟩ : ByteArray))) none) (cond (mayCat (⟨#[111, 117, 116, 32, 40, 99, 41, 44]⟩ : ByteArray).size (rdD tab_6 p0_2).size) (some ((⟨#[111, 117, 116, 32, 40, 99, 41, 44]⟩ : ByteArray) ++ (rdD tab_6 p0_2))) none)) (cond (p0_3 == 2) (cond (inR p0_5 2) (cond (inR p0_4 5) (cond (mayCat (rdD ([(⟨#[115, 98, 99, 32, 104, 108, 44]⟩ : ByteArray), (⟨#[97, 100, 99, 32, 104, 108, 44]⟩ : ByteArray)] : List ByteArray) p0_5).size (rdD tab_7 p0_4).size) (some ((rdD ([(⟨#[115, 98, 99, 32, 104, 108, 44]⟩ : ByteArray), (⟨#[97, 100, 99, 32, 104, 108, 44]⟩ : ByteArray)] : List ByteArray) p0_5) ++ (rdD tab_7 p0_4))) none) none) none) (cond (p0_3 == 3) (cond (p0_5 == 1) (cond (inR p0_4 5) (cond (mayCat (⟨#[108, 100, 32]⟩ : ByteArray).size (rdD tab_7 p0_4).size) (cond (mayCat ((⟨#[108, 100, 32]⟩ : ByteArray) ++ (rdD tab_7 p0_4)).size (⟨#[44, 40]⟩ : ByteArray).size) ((text_shown_nn_148.f K p0_0_0 p0_0_1 p0_0_2 p0_0_3 p0_0_4 p0_0_5 p0_1 p0_2 p0_3 p0_4 p0_5).bind fun t68 => cond (mayCat (((⟨#[108, 100, 32]⟩ : ByteArray) ++ (rdD tab_7 p0_4)) ++ (⟨#[44, 40]⟩ : ByteArray)).size t68.size) (cond (mayCat ((((⟨#[108, 100, 32]⟩ : ByteArray) ++ (rdD tab_7 p0_4)) ++ (⟨#[44, 40]⟩ : ByteArray)) ++ t68).size (⟨#[41]⟩ : ByteArray).size) (some (((((⟨#[108, 100, 32]⟩ : ByteArray) ++ (rdD tab_7 p0_4)) ++ (⟨#[44, 40]⟩ : ByteArray)) ++ t68) ++ (⟨#[41]⟩ : ByteArray))) none) none) none) none) none) ((text_shown_nn_148.f K p0_0_0 p0_0_1 p0_0_2 p0_0_3 p0_0_4 p0_0_5 p0_1 p0_2 p0_3 p0_4 p0_5).bind fun t79 => cond (mayCat (⟨#[108, 100, 32, 40]⟩ : ByteArray).size t79.size) (cond (mayCat ((⟨#[108, 100, 32, 40]⟩ : ByteArray) ++ t79).size (⟨#[41, 44]⟩ : ByteArray).size) (cond (inR p0_4 5) (cond (mayCat (((⟨#[108, 100, 32, 40]⟩ : ByteArray) ++ t79) ++ (⟨#[41, 44]⟩ : ByteArray)).size (rdD tab_7 p0_4).size) (some ((((⟨#[108, 100, 32, 40]⟩ : ByteArray) ++ t79) ++ (⟨#[41, 44]⟩ : ByteArray)) ++ (rdD tab_7 p0_4))) none) none) none) none)) (cond (p0_3 == 4) (some (⟨#[110, 101, 103]⟩ : ByteArray)) (cond (p0_3 == 5) (cond (p0_2 == 1) (some (⟨#[114, 101, 116, 105]⟩ : ByteArray)) (some (⟨#[114, 101, 116, 110]⟩ : ByteArray))) (cond (p0_3 == 6) (cond (inR (band .i64 p0_2 3) 4) (some (rdD tab_8 (band .i64 p0_2 3))) none) (some (rdD tab_9 p0_2))))))))) none))) (fun j11 => cond (p0_1 == 2) (cond (decide (p0_3 < 4)) (j11 (decide (p0_2 > 3))) (j11 false)) (j11 false))
theorem text_shown_far_98_ok (K : Nat) (M0 : Nat → Prop) (w0 : World) (a0 : Int) (a1 : Int) (a2 : Int) (a3 : Int) (a4 : Int) (a5 : Int) (a6 : Int) (a7 : Int) (a8 : Int) (a9 : Int) (d0 : Int) (ho : ∀ b, M0 b → b < w0.heap.size) (hG4 : G4.ok w0 M0) (hG5 : G5.ok w0 M0) (hG6 : G6.ok w0 M0) (hG7 : G7.ok w0 M0) (hG8 : G8.ok w0 M0) (hG9 : G9.ok w0 M0) (hG12 : G12.ok w0 M0) (hG15 : G15.ok w0 M0) (hG16 : G16.ok w0 M0) {r : ByteArray} (h : text_shown_far_98.f K a0 a1 a2 a3 a4 a5 a6 a7 a8 a9 d0 = some r) :
  Calls Tryz.prog 98 #[.agg #[iA a0, iB a1, iB a2, iC a3, iA a4, iA a5, iA a6, iA a7, iA a8, iA a9, iA d0]] w0 (text_shown_far_98.post M0 w0 r) := by
 unfold text_shown_far_98.f at h
 have h0 : Holds M0 w0 w0 [] := Holds.start ho
 have h0g4 := h0.aG hG4
 have h0g5 := h0g4.aG hG5
 have h0g6 := h0g5.aG hG6
 have h0g7 := h0g6.aG hG7
 have h0g8 := h0g7.aG hG8
 have h0g9 := h0g8.aG hG9
 have h0g12 := h0g9.aG hG12
 have h0g15 := h0g12.aG hG15
 have h0g16 := h0g15.aG hG16
 have h0 : Holds M0 w0 w0 [G4, G5, G6, G7, G8, G9, G12, G15, G16] := h0g16
 refine calls_of F98 rfl [.agg #[iA a0, iB a1, iB a2, iC a3, iA a4, iA a5, iA a6, iA a7, iA a8, iA a9, iA d0]] (by kernel_rfl) (Xg 1 [.c 1, .c 2] (Xr (Yx 1 126 [iA a0, iB a1, iB a2, iC a3, iA a4, iA a5, iA a6, iA a7, iA a8, iA a9, iA d0] h0 ?_)))
 intro w1 b2 h3 hb4 hn5
 refine Yp 1 [(1, pt b2)] (Zy 3 5 [.c 6, .blk 0, .c 25] 1 [1, 5] [(5, pu b2 6)] (Ya 6 9 3 b2 6 (iA a6) h3 rfl (Zp 2 [1, 8] [(8, tB (a6 == 2))] ?_)))
 obtain ⟨j11, hJ12, h⟩ := of_let h
 have hj13 : ∀ (t8 : Bool) (w10 : World), j11 t8 = some r → Holds M0 w0 w10 [box b2 126 [iA a0, iB a1, iB a2, iC a3, iA a4, iA a5, iA a6, iA a7, iA a8, iA a9, iA d0], G4, G5, G6, G7, G8, G9, G12, G15, G16] → RegI F98 5 [.c 6, .blk 0, .c 25] 14 [(1, pt b2), (4, tB t8)] w10 (text_shown_far_98.post M0 w0 r) := by
  intro t8 w10 h h9
  rw [hJ12] at h
  clear hJ12
  dsimp only at h
  refine Ye (Vc 4 7 18 h (fun hc14 h => ?_) fun hc14 h => ?_)
  ·refine Xq 2 9 [.c 10, .c 15, .blk 0, .c 25] 1 [(1, pt b2), (18, pu b2 8)] (Ya 19 0 3 b2 8 (iA a8) h9 rfl (Zp 2 [1, 21] [(21, tB (a8 == 3))] ?_))
   obtain ⟨j19, hJ20, h⟩ := of_let h
   have hj21 : ∀ (t16 : Bool) (w18 : World), j19 t16 = some r → Holds M0 w0 w18 [box b2 126 [iA a0, iB a1, iB a2, iC a3, iA a4, iA a5, iA a6, iA a7, iA a8, iA a9, iA d0], G4, G5, G6, G7, G8, G9, G12, G15, G16] → RegI F98 9 [.c 10, .c 15, .blk 0, .c 25] 8 [(1, pt b2), (25, tB t16)] w18 (text_shown_far_98.post M0 w0 r) := by
    intro t16 w18 h h17
    rw [hJ20] at h
    clear hJ20
    dsimp only at h
    refine Ye (Vc 25 11 14 h (fun hc22 h => ?_) fun hc22 h => ?_)
    ·refine Xq 1 12 [.c 13, .c 15, .blk 0, .c 25] 1 [(26, pu b2 7)] (Ya 27 0 3 b2 7 (iA a7) h17 rfl (Yp 1 [(28, iA (wA (a7 - 4)))] ?_))
     have ⟨hc23, h⟩ := oz h
     refine Yo (OpE.run 29 (by kernel_rfl) (run_idxArr (T := 170) (b := 4) (o := 0) (ix := (wA (a7 - 4))) (len := 4) (s := 1) (by kernel_rfl) (by kernel_rfl) hc23) (Yo (OpE.loadTab 30 1 9 en_4 tab_4 0 1 (wA (a7 - 4)) (tS (rdD tab_4 (wA (a7 - 4)))) (o := 0 + (Int.toNat (wA (a7 - 4))) * 1 + 0) h17 (by kernel_rfl) rfl (fun _ => rfl) (by kernel_rfl) (by omega) hc23 (fun _ => by kernel_rfl) ?_)))
     have ⟨hc24, h⟩ := oz h
     refine Yt 31 sf38 (rdD tab_4 (wA (a7 - 4))) hc24 (Yd 1 [(2, tS (sf38 ++ (rdD tab_4 (wA (a7 - 4)))))] ?_)
     obtain rfl := sI h
     exact Xt (tS (sf38 ++ (rdD tab_4 (wA (a7 - 4))))) ⟨rfl, h17.below⟩
    ·refine Xg 1 [.c 15, .blk 0, .c 25] (Xg 1 [.c 16, .c 17, .blk 0, .c 25] (RunsI.any 11 (by kernel_rfl) (by kernel_rfl) (by kernel_rfl) (Kp ([] : List Nat) (World.drew w18)) ?_))
     have h26 := h17.drew
     generalize World.drew w18 = w25 at h26 ⊢
     have hS27 := Kp.refl ([] : List Nat) w25
     refine Wu 0 32 (pu b2 8) hS27 (Wa 1 33 0 3 b2 8 (iA a8) [] h26 rfl hS27 rfl ?_)
     have ⟨hc29, h⟩ := oz h
     refine AnyE.run 2 34 (.pointer (some ⟨5, 0 + (Int.toNat a8) * 1, none⟩)) (by kernel_rfl) hS27 (fun _ hk => run_idxArr (T := 170) (b := 5) (o := 0) (ix := a8) (len := 4) (s := 1) (by kernel_rfl) (by kernel_rfl) hc29) (AnyE.loadTab 3 35 2 9 en_5 tab_5 0 1 a8 (tS (rdD tab_5 a8)) [] (o := 0 + (Int.toNat a8) * 1 + 0) h26 rfl (by kernel_rfl) hS27 rfl rfl (fun _ => rfl) (by kernel_rfl) (by omega) hc29 (fun _ => by kernel_rfl) (Wu 4 36 (pu b2 7) hS27 (Wa 5 37 0 3 b2 7 (iA a7) [] h26 rfl hS27 rfl (Wu 6 38 (iA (wA (a7 - 4))) hS27 ?_))))
     have ⟨hc30, h⟩ := oz h
     refine AnyE.run 7 39 (.pointer (some ⟨4, 0 + (Int.toNat (wA (a7 - 4))) * 1, none⟩)) (by kernel_rfl) hS27 (fun _ hk => run_idxArr (T := 170) (b := 4) (o := 0) (ix := (wA (a7 - 4))) (len := 4) (s := 1) (by kernel_rfl) (by kernel_rfl) hc30) (AnyE.loadTab 8 40 1 9 en_4 tab_4 0 1 (wA (a7 - 4)) (tS (rdD tab_4 (wA (a7 - 4)))) [] (o := 0 + (Int.toNat (wA (a7 - 4))) * 1 + 0) h26 rfl (by kernel_rfl) hS27 rfl rfl (fun _ => rfl) (by kernel_rfl) (by omega) hc30 (fun _ => by kernel_rfl) ?_)
     have ⟨hc31, h⟩ := oz h
     refine Wt 9 41 (rdD tab_5 a8) (rdD tab_4 (wA (a7 - 4))) hS27 hc31 (Wu 10 2 (tS ((rdD tab_5 a8) ++ (rdD tab_4 (wA (a7 - 4))))) hS27 (AnyE.done (by kernel_rfl) (fun w32 hu33 => ?_)))
     have h34 := h26.call hu33
     refine Vl [(2, tS ((rdD tab_5 a8) ++ (rdD tab_4 (wA (a7 - 4)))))] ?_
     obtain rfl := sI h
     exact Xt (tS ((rdD tab_5 a8) ++ (rdD tab_4 (wA (a7 - 4))))) ⟨rfl, h34.below⟩
   clear hJ20
   rcases oc h with ⟨hc15, h⟩ | ⟨hc15, h⟩
   ·refine Yf 21 true hc15 (Zp 1 [1, 21, 22] [(22, pu b2 7)] (Ya 23 0 3 b2 7 (iA a7) h9 rfl (Zp 2 [1, 25] [(25, tB (decide (a7 < 6)))] (Ul [(1, pt b2), (25, tB (decide (a7 < 6)))] ?_))))
    exact hj21 (decide (a7 < 6)) w10 h (h9.pk [0, 1, 2, 3, 4, 5, 6, 7, 8, 9])
   ·refine Yf 21 false hc15 (Zp 4 [1, 25] [(25, tB false)] (Ul [(1, pt b2), (25, tB false)] ?_))
    exact hj21 false w10 h (h9.pk [0, 1, 2, 3, 4, 5, 6, 7, 8, 9])
  ·refine Xq 1 19 [.c 20, .blk 0, .c 25] 1 [(1, pt b2), (43, pu b2 6)] (Ya 44 0 3 b2 6 (iA a6) h9 rfl (Zd 2 [1, 42] [(42, tB (a6 != 1))] (Vc 42 21 24 h (fun hc35 h => ?_) fun hc35 h => ?_)))
   ·refine Xd 1 22 [.c 23, .blk 0, .c 25] 1 [(2, tS (⟨#[110, 111, 112, 42]⟩ : ByteArray))] ?_
    obtain rfl := sI h
    exact Xt (tS (⟨#[110, 111, 112, 42]⟩ : ByteArray)) ⟨rfl, h9.below⟩
   ·refine Xg 1 [.blk 0, .c 25] (Xq 2 26 [.c 27] 1 [(1, pt b2), (46, pu b2 7)] (Ya 47 0 3 b2 7 (iA a7) h9 rfl ?_))
    have ⟨hc36, h⟩ := oz h
    refine Yo (OpE.run 48 (by kernel_rfl) (run_idxArr (T := 169) (b := 6) (o := 0) (ix := a7) (len := 8) (s := 1) (by kernel_rfl) (by kernel_rfl) hc36) (Yo (OpE.loadTab 49 3 9 en_6 tab_6 0 1 a7 (tS (rdD tab_6 a7)) (o := 0 + (Int.toNat a7) * 1 + 0) h9 (by kernel_rfl) rfl (fun _ => rfl) (by kernel_rfl) (by omega) hc36 (fun _ => by kernel_rfl) (Zp 1 [1, 3] [(3, tS (rdD tab_6 a7))] (Zy 2 29 [.c 30, .c 102] 1 [1, 3, 50] [(50, pu b2 8)] (Ya 51 0 3 b2 8 (iA a8) h9 rfl (Zy 2 32 [.c 33, .blk 1, .c 102] 2 [1, 3, 51, 52] [(51, iA a8), (52, tB (a8 == 0))] (Ye (Vc 52 34 43 h (fun hc37 h => ?_) fun hc37 h => ?_)))))))))
    ·refine Xq 2 36 [.c 37, .c 40, .blk 1, .c 102] 1 [(3, tS (rdD tab_6 a7)), (54, pu b2 7)] (Ya 55 0 3 b2 7 (iA a7) h9 rfl (Zd 1 [3, 56] [(56, tB (a7 == 6))] (Vc 56 38 39 h (fun hc38 h => ?_) fun hc38 h => ?_)))
     ·refine Xr (Yp 1 [(3, tS sf27)] (Yq 1 41 [.c 42, .blk 1, .c 102] 1 [(57, tS sf27)] ?_))
      have ⟨hc39, h⟩ := oz h
      refine Yt 58 sf16 sf27 hc39 ?_
      have ⟨hc40, h⟩ := oz h
      refine Yt 59 (sf16 ++ sf27) sf28 hc40 (Yd 1 [(2, tS ((sf16 ++ sf27) ++ sf28))] ?_)
      obtain rfl := sI h
      exact Xt (tS ((sf16 ++ sf27) ++ sf28)) ⟨rfl, h9.below⟩
     ·refine Xg 1 [.c 40, .blk 1, .c 102] (Xq 1 41 [.c 42, .blk 1, .c 102] 1 [(57, tS (rdD tab_6 a7))] ?_)
      have ⟨hc41, h⟩ := oz h
      refine Yt 58 sf16 (rdD tab_6 a7) hc41 ?_
      have ⟨hc42, h⟩ := oz h
      refine Yt 59 (sf16 ++ (rdD tab_6 a7)) sf28 hc42 (Yd 1 [(2, tS ((sf16 ++ (rdD tab_6 a7)) ++ sf28))] ?_)
      obtain rfl := sI h
      exact Xt (tS ((sf16 ++ (rdD tab_6 a7)) ++ sf28)) ⟨rfl, h9.below⟩
    ·refine Xd 1 44 [.c 45, .blk 1, .c 102] 2 [(1, pt b2), (3, tS (rdD tab_6 a7)), (51, iA a8), (60, tB (a8 == 1))] (Vc 60 46 55 h (fun hc43 h => ?_) fun hc43 h => ?_)
     ·refine Xq 2 48 [.c 49, .c 52, .blk 1, .c 102] 1 [(3, tS (rdD tab_6 a7)), (62, pu b2 7)] (Ya 63 0 3 b2 7 (iA a7) h9 rfl (Zd 1 [3, 64] [(64, tB (a7 == 6))] (Vc 64 50 51 h (fun hc44 h => ?_) fun hc44 h => ?_)))
      ·refine Xr (Yp 1 [(3, tS sf32)] (Yq 1 53 [.c 54, .blk 1, .c 102] 1 [(65, tS sf32)] ?_))
       have ⟨hc45, h⟩ := oz h
       refine Yt 66 sf29 sf32 hc45 (Yd 1 [(2, tS (sf29 ++ sf32))] ?_)
       obtain rfl := sI h
       exact Xt (tS (sf29 ++ sf32)) ⟨rfl, h9.below⟩
      ·refine Xg 1 [.c 52, .blk 1, .c 102] (Xq 1 53 [.c 54, .blk 1, .c 102] 1 [(65, tS (rdD tab_6 a7))] ?_)
       have ⟨hc46, h⟩ := oz h
       refine Yt 66 sf29 (rdD tab_6 a7) hc46 (Yd 1 [(2, tS (sf29 ++ (rdD tab_6 a7)))] ?_)
       obtain rfl := sI h
       exact Xt (tS (sf29 ++ (rdD tab_6 a7))) ⟨rfl, h9.below⟩
     ·refine Xd 1 56 [.c 57, .blk 1, .c 102] 2 [(1, pt b2), (51, iA a8), (67, tB (a8 == 2))] (Vc 67 58 61 h (fun hc47 h => ?_) fun hc47 h => ?_)
      ·refine Xg 1 [.c 59, .c 60, .blk 1, .c 102] (RunsI.any 10 (by kernel_rfl) (by kernel_rfl) (by kernel_rfl) (Kp ([] : List Nat) (World.drew w10)) ?_)
       have h49 := h9.drew
       generalize World.drew w10 = w48 at h49 ⊢
       have hS50 := Kp.refl ([] : List Nat) w48
       refine Wu 0 69 (.agg #[tS sf17, tS sf18]) hS50 (Wu 1 70 (pu b2 10) hS50 (Wa 2 71 0 3 b2 10 (iA d0) [] h49 rfl hS50 rfl ?_))
       have ⟨hc52, h⟩ := oz h
       refine AnyE.run 3 72 (tS (rdD ([sf17, sf18] : List ByteArray) d0)) (by kernel_rfl) hS50 (fun _ hk => run_indexTab (T0 := 172) (en := (fun (x : ByteArray) => ([tS x] : List Value))) (tab := ([sf17, sf18] : List ByteArray)) (len := 2) (sz := 1) (j := d0) (v := tS (rdD ([sf17, sf18] : List ByteArray) d0)) (fun _ => rfl) (by kernel_rfl) (by kernel_rfl) rfl hc52 (fun _ => by kernel_rfl)) (Wu 4 73 (pu b2 9) hS50 (Wa 5 74 0 3 b2 9 (iA a9) [] h49 rfl hS50 rfl ?_))
       have ⟨hc53, h⟩ := oz h
       refine AnyE.run 6 75 (.pointer (some ⟨7, 0 + (Int.toNat a9) * 1, none⟩)) (by kernel_rfl) hS50 (fun _ hk => run_idxArr (T := 173) (b := 7) (o := 0) (ix := a9) (len := 5) (s := 1) (by kernel_rfl) (by kernel_rfl) hc53) (AnyE.loadTab 7 76 4 9 en_7 tab_7 0 1 a9 (tS (rdD tab_7 a9)) [] (o := 0 + (Int.toNat a9) * 1 + 0) h49 rfl (by kernel_rfl) hS50 rfl rfl (fun _ => rfl) (by kernel_rfl) (by omega) hc53 (fun _ => by kernel_rfl) ?_)
       have ⟨hc54, h⟩ := oz h
       refine Wt 8 77 (rdD ([sf17, sf18] : List ByteArray) d0) (rdD tab_7 a9) hS50 hc54 (Wu 9 2 (tS ((rdD ([sf17, sf18] : List ByteArray) d0) ++ (rdD tab_7 a9))) hS50 (AnyE.done (by kernel_rfl) (fun w55 hu56 => ?_)))
       have h57 := h49.call hu56
       refine Vl [(2, tS ((rdD ([sf17, sf18] : List ByteArray) d0) ++ (rdD tab_7 a9)))] ?_
       obtain rfl := sI h
       exact Xt (tS ((rdD ([sf17, sf18] : List ByteArray) d0) ++ (rdD tab_7 a9))) ⟨rfl, h57.below⟩
      ·refine Xd 1 62 [.c 63, .blk 1, .c 102] 2 [(1, pt b2), (51, iA a8), (78, tB (a8 == 3))] (Vc 78 64 75 h (fun hc58 h => ?_) fun hc58 h => ?_)
       ·refine Xq 2 66 [.c 67, .c 72, .blk 1, .c 102] 1 [(1, pt b2), (80, pu b2 10)] (Ya 81 0 3 b2 10 (iA d0) h9 rfl (Zd 1 [1, 82] [(82, tB (d0 == 1))] (Vc 82 68 71 h (fun hc59 h => ?_) fun hc59 h => ?_)))
        ·refine Xg 1 [.c 69, .c 70, .c 72, .blk 1, .c 102] (RunsI.any 11 (by kernel_rfl) (by kernel_rfl) (by kernel_rfl) (Kp ([] : List Nat) (World.drew w10)) ?_)
         have h61 := h9.drew
         generalize World.drew w10 = w60 at h61 ⊢
         have hS62 := Kp.refl ([] : List Nat) w60
         refine Wu 0 83 (pu b2 9) hS62 (Wa 1 84 0 3 b2 9 (iA a9) [] h61 rfl hS62 rfl ?_)
         have ⟨hc64, h⟩ := oz h
         refine AnyE.run 2 85 (.pointer (some ⟨7, 0 + (Int.toNat a9) * 1, none⟩)) (by kernel_rfl) hS62 (fun _ hk => run_idxArr (T := 173) (b := 7) (o := 0) (ix := a9) (len := 5) (s := 1) (by kernel_rfl) (by kernel_rfl) hc64) (AnyE.loadTab 3 86 4 9 en_7 tab_7 0 1 a9 (tS (rdD tab_7 a9)) [] (o := 0 + (Int.toNat a9) * 1 + 0) h61 rfl (by kernel_rfl) hS62 rfl rfl (fun _ => rfl) (by kernel_rfl) (by omega) hc64 (fun _ => by kernel_rfl) ?_)
         have ⟨hc65, h⟩ := oz h
         refine Wt 4 87 sf1 (rdD tab_7 a9) hS62 hc65 ?_
         have ⟨hc66, h⟩ := oz h
         refine Wt 5 88 (sf1 ++ (rdD tab_7 a9)) sf30 hS62 hc66 (Wa 6 89 0 126 b2 0 (.agg #[iA a0, iB a1, iB a2, iC a3, iA a4, iA a5, iA a6, iA a7, iA a8, iA a9, iA d0]) [] h61 rfl hS62 rfl ?_)
         obtain ⟨t68, hg67, h⟩ := of_bind h
         refine Wc 7 90 (tS t68) 148 #[.agg #[iA a0, iB a1, iB a2, iC a3, iA a4, iA a5, iA a6, iA a7, iA a8, iA a9, iA d0]] hS62 (fun w hk => text_shown_nn_148_ok K (fun _ => False) w a0 a1 a2 a3 a4 a5 a6 a7 a8 a9 d0 nF (gF (h61.atI [] rfl hk 7 rfl rfl)) (gF (h61.atI [] rfl hk 8 rfl rfl)) (gF (h61.atI [] rfl hk 9 rfl rfl)) hg67) ?_
         have ⟨hc69, h⟩ := oz h
         refine Wt 8 91 ((sf1 ++ (rdD tab_7 a9)) ++ sf30) t68 hS62 hc69 ?_
         have ⟨hc70, h⟩ := oz h
         refine Wt 9 92 (((sf1 ++ (rdD tab_7 a9)) ++ sf30) ++ t68) sf2 hS62 hc70 (Wu 10 2 (tS ((((sf1 ++ (rdD tab_7 a9)) ++ sf30) ++ t68) ++ sf2)) hS62 (AnyE.done (by kernel_rfl) (fun w71 hu72 => ?_)))
         have h73 := h61.call hu72
         refine Vl [(2, tS ((((sf1 ++ (rdD tab_7 a9)) ++ sf30) ++ t68) ++ sf2))] ?_
         obtain rfl := sI h
         exact Xt (tS ((((sf1 ++ (rdD tab_7 a9)) ++ sf30) ++ t68) ++ sf2)) ⟨rfl, h73.below⟩
        ·refine Xg 1 [.c 72, .blk 1, .c 102] (Xg 1 [.c 73, .c 74, .blk 1, .c 102] (RunsI.any 10 (by kernel_rfl) (by kernel_rfl) (by kernel_rfl) (Kp ([] : List Nat) (World.drew w10)) ?_))
         have h75 := h9.drew
         generalize World.drew w10 = w74 at h75 ⊢
         have hS76 := Kp.refl ([] : List Nat) w74
         refine Wa 0 93 0 126 b2 0 (.agg #[iA a0, iB a1, iB a2, iC a3, iA a4, iA a5, iA a6, iA a7, iA a8, iA a9, iA d0]) [] h75 rfl hS76 rfl ?_
         obtain ⟨t79, hg78, h⟩ := of_bind h
         refine Wc 1 94 (tS t79) 148 #[.agg #[iA a0, iB a1, iB a2, iC a3, iA a4, iA a5, iA a6, iA a7, iA a8, iA a9, iA d0]] hS76 (fun w hk => text_shown_nn_148_ok K (fun _ => False) w a0 a1 a2 a3 a4 a5 a6 a7 a8 a9 d0 nF (gF (h75.atI [] rfl hk 7 rfl rfl)) (gF (h75.atI [] rfl hk 8 rfl rfl)) (gF (h75.atI [] rfl hk 9 rfl rfl)) hg78) ?_
         have ⟨hc80, h⟩ := oz h
         refine Wt 2 95 sf31 t79 hS76 hc80 ?_
         have ⟨hc81, h⟩ := oz h
         refine Wt 3 96 (sf31 ++ t79) sf33 hS76 hc81 (Wu 4 97 (pu b2 9) hS76 (Wa 5 98 0 3 b2 9 (iA a9) [] h75 rfl hS76 rfl ?_))
         have ⟨hc82, h⟩ := oz h
         refine AnyE.run 6 99 (.pointer (some ⟨7, 0 + (Int.toNat a9) * 1, none⟩)) (by kernel_rfl) hS76 (fun _ hk => run_idxArr (T := 173) (b := 7) (o := 0) (ix := a9) (len := 5) (s := 1) (by kernel_rfl) (by kernel_rfl) hc82) (AnyE.loadTab 7 100 4 9 en_7 tab_7 0 1 a9 (tS (rdD tab_7 a9)) [] (o := 0 + (Int.toNat a9) * 1 + 0) h75 rfl (by kernel_rfl) hS76 rfl rfl (fun _ => rfl) (by kernel_rfl) (by omega) hc82 (fun _ => by kernel_rfl) ?_)
         have ⟨hc83, h⟩ := oz h
         refine Wt 8 101 ((sf31 ++ t79) ++ sf33) (rdD tab_7 a9) hS76 hc83 (Wu 9 2 (tS (((sf31 ++ t79) ++ sf33) ++ (rdD tab_7 a9))) hS76 (AnyE.done (by kernel_rfl) (fun w84 hu85 => ?_)))
         have h86 := h75.call hu85
         refine Vl [(2, tS (((sf31 ++ t79) ++ sf33) ++ (rdD tab_7 a9)))] ?_
         obtain rfl := sI h
         exact Xt (tS (((sf31 ++ t79) ++ sf33) ++ (rdD tab_7 a9))) ⟨rfl, h86.below⟩
       ·refine Xd 1 76 [.c 77, .blk 1, .c 102] 2 [(1, pt b2), (51, iA a8), (102, tB (a8 == 4))] (Vc 102 78 81 h (fun hc87 h => ?_) fun hc87 h => ?_)
        ·refine Xd 1 79 [.c 80, .blk 1, .c 102] 1 [(2, tS (⟨#[110, 101, 103]⟩ : ByteArray))] ?_
         obtain rfl := sI h
         exact Xt (tS (⟨#[110, 101, 103]⟩ : ByteArray)) ⟨rfl, h9.below⟩
        ·refine Xd 1 82 [.c 83, .blk 1, .c 102] 2 [(1, pt b2), (51, iA a8), (104, tB (a8 == 5))] (Vc 104 84 95 h (fun hc88 h => ?_) fun hc88 h => ?_)
         ·refine Xq 2 86 [.c 87, .c 92, .blk 1, .c 102] 1 [(106, pu b2 7)] (Ya 107 0 3 b2 7 (iA a7) h9 rfl (Yd 1 [(108, tB (a7 == 1))] (Vc 108 88 91 h (fun hc89 h => ?_) fun hc89 h => ?_)))
          ·refine Xd 1 89 [.c 90, .c 92, .blk 1, .c 102] 1 [(2, tS (⟨#[114, 101, 116, 105]⟩ : ByteArray))] ?_
           obtain rfl := sI h
           exact Xt (tS (⟨#[114, 101, 116, 105]⟩ : ByteArray)) ⟨rfl, h9.below⟩
          ·refine Xg 1 [.c 92, .blk 1, .c 102] (Xd 1 93 [.c 94, .blk 1, .c 102] 1 [(2, tS (⟨#[114, 101, 116, 110]⟩ : ByteArray))] ?_)
           obtain rfl := sI h
           exact Xt (tS (⟨#[114, 101, 116, 110]⟩ : ByteArray)) ⟨rfl, h9.below⟩
         ·refine Xd 1 96 [.c 97, .blk 1, .c 102] 2 [(1, pt b2), (109, tB (a8 == 6))] (Vc 109 98 101 h (fun hc90 h => ?_) fun hc90 h => ?_)
          ·refine Xq 1 99 [.c 100, .blk 1, .c 102] 1 [(111, pu b2 7)] (Ya 112 0 3 b2 7 (iA a7) h9 rfl (Yp 1 [(113, iA (band .i64 a7 3))] ?_))
           have ⟨hc91, h⟩ := oz h
           refine Yo (OpE.run 114 (by kernel_rfl) (run_idxArr (T := 170) (b := 8) (o := 0) (ix := (band .i64 a7 3)) (len := 4) (s := 1) (by kernel_rfl) (by kernel_rfl) hc91) (Yo (OpE.loadTab 115 5 9 en_8 tab_8 0 1 (band .i64 a7 3) (tS (rdD tab_8 (band .i64 a7 3))) (o := 0 + (Int.toNat (band .i64 a7 3)) * 1 + 0) h9 (by kernel_rfl) rfl (fun _ => rfl) (by kernel_rfl) (by omega) hc91 (fun _ => by kernel_rfl) (Yd 1 [(2, tS (rdD tab_8 (band .i64 a7 3)))] ?_))))
           obtain rfl := sI h
           exact Xt (tS (rdD tab_8 (band .i64 a7 3))) ⟨rfl, h9.below⟩
          ·refine Xg 1 [.blk 1, .c 102] (Xq 2 103 [.c 104] 1 [(116, pu b2 7)] (Ya 117 0 3 b2 7 (iA a7) h9 rfl (Yo (OpE.run 118 (by kernel_rfl) (run_idxArr (T := 169) (b := 9) (o := 0) (ix := a7) (len := 8) (s := 1) (by kernel_rfl) (by kernel_rfl) hc36) (Yo (OpE.loadTab 119 6 9 en_9 tab_9 0 1 a7 (tS (rdD tab_9 a7)) (o := 0 + (Int.toNat a7) * 1 + 0) h9 (by kernel_rfl) rfl (fun _ => rfl) (by kernel_rfl) (by omega) hc36 (fun _ => by kernel_rfl) (Yd 1 [(2, tS (rdD tab_9 a7))] ?_)))))))
           obtain rfl := sI h
           exact Xt (tS (rdD tab_9 a7)) ⟨rfl, h9.below⟩
 clear hJ12
 rcases oc h with ⟨hc6, h⟩ | ⟨hc6, h⟩
 ·refine Yf 8 true hc6 (Zp 1 [1, 8, 9] [(9, pu b2 8)] (Ya 10 9 3 b2 8 (iA a8) h3 rfl (Zp 3 [1, 13] [(13, tB (decide (a8 < 4)))] ?_)))
  rcases oc h with ⟨hc7, h⟩ | ⟨hc7, h⟩
  ·refine Yf 13 true hc7 (Zp 1 [1, 13, 14] [(14, pu b2 7)] (Ya 15 9 3 b2 7 (iA a7) h3 rfl (Zp 3 [1, 4] [(4, tB (decide (a7 > 3)))] (Ul [(1, pt b2), (4, tB (decide (a7 > 3)))] ?_))))
   exact hj13 (decide (a7 > 3)) w1 h (h3.pk [9, 0, 1, 2, 3, 4, 5, 6, 7, 8])
  ·refine Yf 13 false hc7 (Zp 5 [1, 4] [(4, tB false)] (Ul [(1, pt b2), (4, tB false)] ?_))
   exact hj13 false w1 h (h3.pk [9, 0, 1, 2, 3, 4, 5, 6, 7, 8])
 ·refine Yf 8 false hc6 (Zp 10 [1, 4] [(4, tB false)] (Ul [(1, pt b2), (4, tB false)] ?_))
  exact hj13 false w1 h (h3.pk [9, 0, 1, 2, 3, 4, 5, 6, 7, 8])
end

section
abbrev text_shown_bit_99.post := pS
def text_shown_bit_99.f (K : Nat) (p0_0_0 : Int) (p0_0_1 : Int) (p0_0_2 : Int) (p0_0_3 : Int) (p0_0_4 : Int) (p0_0_5 : Int) (p0_1 : Int) (p0_2 : Int) (p0_3 : Int) (p0_4 : Int) (p0_5 : Int) : Option ByteArray := cond (inR p0_3 8) (Let (fun (t23 : ByteArray) => cond (p0_1 == 0) (cond (inR p0_2 8) (cond (mayCat (rdD tab_10 p0_2).size t23.size) (some ((rdD tab_10 p0_2) ++ t23)) none) none) (cond (inR p0_1 4) ((strconv_Itoa_153.f K p0_2).bind fun t38 => cond (mayCat (rdD tab_11 p0_1).size t38.size) (cond (mayCat ((rdD tab_11 p0_1) ++ t38).size (⟨#[44]⟩ : ByteArray).size) (cond (mayCat (((rdD tab_11 p0_1) ++ t38) ++ (⟨#[44]⟩ : ByteArray)).size t23.size) (some ((((rdD tab_11 p0_1) ++ t38) ++ (⟨#[44]⟩ : ByteArray)) ++ t23)) none) none) none) none)) (fun j26 => cond (p0_0_0 != 1) ((text_Index_152.f K p0_0_0 p0_0_2).bind fun t12 => Let (fun (t14 : Bool) => cond t14 (cond (mayCat (⟨#[44]⟩ : ByteArray).size (rdD tab_6 p0_3).size) (cond (mayCat t12.size ((⟨#[44]⟩ : ByteArray) ++ (rdD tab_6 p0_3)).size) (j26 (t12 ++ ((⟨#[44]⟩ : ByteArray) ++ (rdD tab_6 p0_3)))) none) none) (j26 t12)) (fun j17 => cond (p0_1 != 1) (j17 (p0_3 != 6)) (j17 false))) (j26 (rdD tab_6 p0_3)))) none
theorem text_shown_bit_99_ok (K : Nat) (M0 : Nat → Prop) (w0 : World) (a0 : Int) (a1 : Int) (a2 : Int) (a3 : Int) (a4 : Int) (a5 : Int) (a6 : Int) (a7 : Int) (a8 : Int) (a9 : Int) (d0 : Int) (ho : ∀ b, M0 b → b < w0.heap.size) (hG6 : G6.ok w0 M0) (hG10 : G10.ok w0 M0) (hG11 : G11.ok w0 M0) (hG12 : G12.ok w0 M0) {r : ByteArray} (h : text_shown_bit_99.f K a0 a1 a2 a3 a4 a5 a6 a7 a8 a9 d0 = some r) :
  Calls Tryz.prog 99 #[.agg #[iA a0, iB a1, iB a2, iC a3, iA a4, iA a5, iA a6, iA a7, iA a8, iA a9, iA d0]] w0 (text_shown_bit_99.post M0 w0 r) := by
 unfold text_shown_bit_99.f at h
 have h0 : Holds M0 w0 w0 [] := Holds.start ho
 have h0g6 := h0.aG hG6
 have h0g10 := h0g6.aG hG10
 have h0g11 := h0g10.aG hG11
 have h0g12 := h0g11.aG hG12
 have h0 : Holds M0 w0 w0 [G6, G10, G11, G12] := h0g12
 refine calls_of F99 rfl [.agg #[iA a0, iB a1, iB a2, iC a3, iA a4, iA a5, iA a6, iA a7, iA a8, iA a9, iA d0]] (by kernel_rfl) (Xg 1 [.c 1, .c 2] (Xr (Yx 1 126 [iA a0, iB a1, iB a2, iC a3, iA a4, iA a5, iA a6, iA a7, iA a8, iA a9, iA d0] h0 ?_)))
 intro w1 b2 h3 hb4 hn5
 refine Yp 1 [(1, pt b2)] (Zy 1 3 [.c 4] 1 [1, 4] [(4, pu b2 8)] (Ya 5 4 3 b2 8 (iA a8) h3 rfl ?_))
 have ⟨hc6, h⟩ := oz h
 refine Yo (OpE.run 6 (by kernel_rfl) (run_idxArr (T := 169) (b := 6) (o := 0) (ix := a8) (len := 8) (s := 1) (by kernel_rfl) (by kernel_rfl) hc6) (Yo (OpE.loadTab 7 0 9 en_6 tab_6 0 1 a8 (tS (rdD tab_6 a8)) (o := 0 + (Int.toNat a8) * 1 + 0) h3 (by kernel_rfl) rfl (fun _ => rfl) (by kernel_rfl) (by omega) hc6 (fun _ => by kernel_rfl) (Zp 1 [1, 3] [(3, tS (rdD tab_6 a8))] (Zy 2 6 [.c 7, .c 16] 2 [1, 3, 9] [(9, pt b2)] (Ya 10 4 3 b2 0 (iA a0) h3 rfl (Zd 1 [1, 3, 11] [(11, tB (a0 != 1))] ?_)))))))
 obtain ⟨j26, hJ27, h⟩ := of_let h
 have hj28 : ∀ (t23 : ByteArray) (w25 : World), j26 t23 = some r → Holds M0 w0 w25 [box b2 126 [iA a0, iB a1, iB a2, iC a3, iA a4, iA a5, iA a6, iA a7, iA a8, iA a9, iA d0], G6, G10, G11, G12] → RunsI F99 [.c 16] [(1, pt b2), (3, tS t23)] w25 (text_shown_bit_99.post M0 w0 r) := by
  intro t23 w25 h h24
  rw [hJ27] at h
  clear hJ27
  dsimp only at h
  refine Xq 2 18 [.c 19, .c 24] 1 [(1, pt b2), (3, tS t23), (34, pu b2 6)] (Ya 35 0 3 b2 6 (iA a6) h24 rfl (Zd 1 [1, 3, 36] [(36, tB (a6 == 0))] (Vc 36 20 23 h (fun hc29 h => ?_) fun hc29 h => ?_)))
  ·refine Xq 1 21 [.c 22, .c 24] 1 [(3, tS t23), (37, pu b2 7)] (Ya 38 0 3 b2 7 (iA a7) h24 rfl ?_)
   have ⟨hc30, h⟩ := oz h
   refine Yo (OpE.run 39 (by kernel_rfl) (run_idxArr (T := 169) (b := 10) (o := 0) (ix := a7) (len := 8) (s := 1) (by kernel_rfl) (by kernel_rfl) hc30) (Yo (OpE.loadTab 40 2 9 en_10 tab_10 0 1 a7 (tS (rdD tab_10 a7)) (o := 0 + (Int.toNat a7) * 1 + 0) h24 (by kernel_rfl) rfl (fun _ => rfl) (by kernel_rfl) (by omega) hc30 (fun _ => by kernel_rfl) (Yp 1 [(40, tS (rdD tab_10 a7)), (41, tS t23)] ?_))))
   have ⟨hc31, h⟩ := oz h
   refine Yt 42 (rdD tab_10 a7) t23 hc31 (Yd 1 [(2, tS ((rdD tab_10 a7) ++ t23))] ?_)
   obtain rfl := sI h
   exact Xt (tS ((rdD tab_10 a7) ++ t23)) ⟨rfl, h24.below⟩
  ·refine Xg 1 [.c 24] (Xg 1 [.c 25, .c 26] (RunsI.any 12 (by kernel_rfl) (by kernel_rfl) (by kernel_rfl) (Kp ([] : List Nat) (World.drew w25)) ?_))
   have h33 := h24.drew
   generalize World.drew w25 = w32 at h33 ⊢
   have hS34 := Kp.refl ([] : List Nat) w32
   refine Wu 0 43 (pu b2 6) hS34 (Wa 1 44 0 3 b2 6 (iA a6) [] h33 rfl hS34 rfl ?_)
   have ⟨hc36, h⟩ := oz h
   refine AnyE.run 2 45 (.pointer (some ⟨11, 0 + (Int.toNat a6) * 1, none⟩)) (by kernel_rfl) hS34 (fun _ hk => run_idxArr (T := 170) (b := 11) (o := 0) (ix := a6) (len := 4) (s := 1) (by kernel_rfl) (by kernel_rfl) hc36) (AnyE.loadTab 3 46 3 9 en_11 tab_11 0 1 a6 (tS (rdD tab_11 a6)) [] (o := 0 + (Int.toNat a6) * 1 + 0) h33 rfl (by kernel_rfl) hS34 rfl rfl (fun _ => rfl) (by kernel_rfl) (by omega) hc36 (fun _ => by kernel_rfl) (Wu 4 47 (pu b2 7) hS34 (Wa 5 48 0 3 b2 7 (iA a7) [] h33 rfl hS34 rfl ?_)))
   obtain ⟨t38, hg37, h⟩ := of_bind h
   refine Wc 6 49 (tS t38) 153 #[iA a7] hS34 (fun w hk => strconv_Itoa_153_ok K (fun _ => False) w a7 nF (gF (h33.atI [] rfl hk 4 rfl rfl)) hg37) ?_
   have ⟨hc39, h⟩ := oz h
   refine Wt 7 50 (rdD tab_11 a6) t38 hS34 hc39 ?_
   have ⟨hc40, h⟩ := oz h
   refine Wt 8 51 ((rdD tab_11 a6) ++ t38) sf0 hS34 hc40 (Wu 9 52 (tS t23) hS34 ?_)
   have ⟨hc41, h⟩ := oz h
   refine Wt 10 53 (((rdD tab_11 a6) ++ t38) ++ sf0) t23 hS34 hc41 (Wu 11 2 (tS ((((rdD tab_11 a6) ++ t38) ++ sf0) ++ t23)) hS34 (AnyE.done (by kernel_rfl) (fun w42 hu43 => ?_)))
   have h44 := h33.call hu43
   refine Vl [(2, tS ((((rdD tab_11 a6) ++ t38) ++ sf0) ++ t23))] ?_
   obtain rfl := sI h
   exact Xt (tS ((((rdD tab_11 a6) ++ t38) ++ sf0) ++ t23)) ⟨rfl, h44.below⟩
 clear hJ27
 refine Vc 11 8 15 h (fun hc7 h => ?_) fun hc7 h => ?_
 ·refine Xq 1 9 [.c 10, .c 16] 2 [(1, pt b2), (13, pt b2)] (Ya 14 4 3 b2 0 (iA a0) h3 rfl (Yp 2 [(1, pt b2), (14, iA a0), (16, pu b2 2)] (Ya 17 4 5 b2 2 (iB a2) h3 rfl ?_)))
  obtain ⟨t12, hg11, h⟩ := of_bind h
  refine Yc 18 152 #[iA a0, iB a2] ((text_Index_152_ok K _ w1  a0 a2 h3.old' (h3.get 3 rfl) hg11).mono ?_)
  rintro _ w8 ⟨rfl, hb9⟩
  refine ⟨_, rfl, ?_⟩
  have h10 := h3.call hb9
  refine Zp 1 [1, 3] [(3, tS t12)] (Zy 1 11 [.c 12, .c 16] 1 [1, 3, 19] [(19, pu b2 6)] (Ya 20 4 3 b2 6 (iA a6) h10 rfl (Zp 2 [1, 3, 22] [(22, tB (a6 != 1))] ?_)))
  obtain ⟨j17, hJ18, h⟩ := of_let h
  have hj19 : ∀ (t14 : Bool) (w16 : World), j17 t14 = some r → Holds M0 w0 w16 [box b2 126 [iA a0, iB a1, iB a2, iC a3, iA a4, iA a5, iA a6, iA a7, iA a8, iA a9, iA d0], G6, G10, G11, G12] → RegI F99 11 [.c 12, .c 16] 8 [(1, pt b2), (3, tS t12), (26, tB t14)] w16 (text_shown_bit_99.post M0 w0 r) := by
   intro t14 w16 h h15
   rw [hJ18] at h
   clear hJ18
   dsimp only at h
   refine Ye (Vc 26 13 14 h (fun hc20 h => ?_) fun hc20 h => ?_)
   ·refine Xr (Yp 2 [(1, pt b2), (27, tS t12), (28, pu b2 8)] (Ya 29 0 3 b2 8 (iA a8) h15 rfl (Yo (OpE.run 30 (by kernel_rfl) (run_idxArr (T := 169) (b := 6) (o := 0) (ix := a8) (len := 8) (s := 1) (by kernel_rfl) (by kernel_rfl) hc6) (Yo (OpE.loadTab 31 1 9 en_6 tab_6 0 1 a8 (tS (rdD tab_6 a8)) (o := 0 + (Int.toNat a8) * 1 + 0) h15 (by kernel_rfl) rfl (fun _ => rfl) (by kernel_rfl) (by omega) hc6 (fun _ => by kernel_rfl) ?_))))))
    have ⟨hc21, h⟩ := oz h
    refine Yt 32 sf0 (rdD tab_6 a8) hc21 ?_
    have ⟨hc22, h⟩ := oz h
    refine Yt 33 t12 (sf0 ++ (rdD tab_6 a8)) hc22 (Zd 1 [1, 3] [(3, tS (t12 ++ (sf0 ++ (rdD tab_6 a8))))] (Vl [(1, pt b2), (3, tS (t12 ++ (sf0 ++ (rdD tab_6 a8))))] ?_))
    exact hj28 (t12 ++ (sf0 ++ (rdD tab_6 a8))) w16 h (h15.pk [0, 1, 2, 3, 4])
   ·refine Xg 1 [.c 16] (Vl [(1, pt b2), (3, tS t12)] ?_)
    exact hj28 t12 w16 h (h15.pk [0, 1, 2, 3, 4])
  clear hJ18
  rcases oc h with ⟨hc13, h⟩ | ⟨hc13, h⟩
  ·refine Yf 22 true hc13 (Zp 1 [1, 3, 22, 23] [(23, pu b2 8)] (Ya 24 4 3 b2 8 (iA a8) h10 rfl (Zp 2 [1, 3, 26] [(26, tB (a8 != 6))] (Ul [(1, pt b2), (3, tS t12), (26, tB (a8 != 6))] ?_))))
   exact hj19 (a8 != 6) w8 h (h10.pk [4, 0, 1, 2, 3])
  ·refine Yf 22 false hc13 (Zp 4 [1, 3, 26] [(26, tB false)] (Ul [(1, pt b2), (3, tS t12), (26, tB false)] ?_))
   exact hj19 false w8 h (h10.pk [4, 0, 1, 2, 3])
 ·refine Xg 1 [.c 16] (Vl [(1, pt b2), (3, tS (rdD tab_6 a8))] ?_)
  exact hj28 (rdD tab_6 a8) w1 h (h3.pk [4, 0, 1, 2, 3])
end

section
abbrev text_Show_63.post := pS
def text_Show_63.f (K : Nat) (p0_0 : Int) (p0_1 : Int) (p0_2 : Int) (p0_3 : Int) (p0_4 : Int) (p0_5 : Int) : Option ByteArray := (text_of_93.f K p0_0 p0_1 p0_2 p0_3 p0_4 p0_5).bind fun yt10 => Let (fun (t39 : Bool) => cond t39 (cond (yt10.2.2.2.2.2.2.1 == 0) ((text_shown_low_94.f K yt10.1 yt10.2.1 yt10.2.2.1 yt10.2.2.2.1 yt10.2.2.2.2.1 yt10.2.2.2.2.2.1 yt10.2.2.2.2.2.2.1 yt10.2.2.2.2.2.2.2.1 yt10.2.2.2.2.2.2.2.2.1 yt10.2.2.2.2.2.2.2.2.2.1 yt10.2.2.2.2.2.2.2.2.2.2).bind fun t51 => some t51) (cond (yt10.2.2.2.2.2.2.1 == 1) ((text_shown_moves_95.f K yt10.1 yt10.2.1 yt10.2.2.1 yt10.2.2.2.1 yt10.2.2.2.2.1 yt10.2.2.2.2.2.1 yt10.2.2.2.2.2.2.1 yt10.2.2.2.2.2.2.2.1 yt10.2.2.2.2.2.2.2.2.1 yt10.2.2.2.2.2.2.2.2.2.1 yt10.2.2.2.2.2.2.2.2.2.2).bind fun t57 => some t57) (cond (yt10.2.2.2.2.2.2.1 == 2) ((text_shown_sums_96.f K yt10.1 yt10.2.1 yt10.2.2.1 yt10.2.2.2.1 yt10.2.2.2.2.1 yt10.2.2.2.2.2.1 yt10.2.2.2.2.2.2.1 yt10.2.2.2.2.2.2.2.1 yt10.2.2.2.2.2.2.2.2.1 yt10.2.2.2.2.2.2.2.2.2.1 yt10.2.2.2.2.2.2.2.2.2.2).bind fun t63 => some t63) (cond (yt10.2.2.2.2.2.2.1 == 3) ((text_shown_high_97.f K yt10.1 yt10.2.1 yt10.2.2.1 yt10.2.2.2.1 yt10.2.2.2.2.1 yt10.2.2.2.2.2.1 yt10.2.2.2.2.2.2.1 yt10.2.2.2.2.2.2.2.1 yt10.2.2.2.2.2.2.2.2.1 yt10.2.2.2.2.2.2.2.2.2.1 yt10.2.2.2.2.2.2.2.2.2.2).bind fun t69 => some t69) none)))) (cond (p0_0 == 2) ((text_shown_far_98.f K yt10.1 yt10.2.1 yt10.2.2.1 yt10.2.2.2.1 yt10.2.2.2.2.1 yt10.2.2.2.2.2.1 yt10.2.2.2.2.2.2.1 yt10.2.2.2.2.2.2.2.1 yt10.2.2.2.2.2.2.2.2.1 yt10.2.2.2.2.2.2.2.2.2.1 yt10.2.2.2.2.2.2.2.2.2.2).bind fun t75 => some t75) (Let (fun (t78 : Bool) => cond t78 ((text_shown_bit_99.f K yt10.1 yt10.2.1 yt10.2.2.1 yt10.2.2.2.1 yt10.2.2.2.2.1 yt10.2.2.2.2.2.1 yt10.2.2.2.2.2.2.1 yt10.2.2.2.2.2.2.2.1 yt10.2.2.2.2.2.2.2.2.1 yt10.2.2.2.2.2.2.2.2.2.1 yt10.2.2.2.2.2.2.2.2.2.2).bind fun t89 => some t89) (some (⟨#[63]⟩ : ByteArray))) (fun j81 => cond (p0_0 == 1) (j81 true) (cond (p0_0 == 5) (j81 true) (j81 (p0_0 == 6))))))) (fun j42 => cond (p0_0 == 0) (j42 true) (cond (p0_0 == 3) (j42 true) (j42 (p0_0 == 4))))
theorem text_Show_63_ok (K : Nat) (M0 : Nat → Prop) (w0 : World) (d1 : Int) (a6 : Int) (a7 : Int) (a8 : Int) (a9 : Int) (d0 : Int) (ho : ∀ b, M0 b → b < w0.heap.size) (hG1 : G1.ok w0 M0) (hG2 : G2.ok w0 M0) (hG3 : G3.ok w0 M0) (hG4 : G4.ok w0 M0) (hG5 : G5.ok w0 M0) (hG6 : G6.ok w0 M0) (hG7 : G7.ok w0 M0) (hG8 : G8.ok w0 M0) (hG9 : G9.ok w0 M0) (hG10 : G10.ok w0 M0) (hG11 : G11.ok w0 M0) (hG12 : G12.ok w0 M0) (hG15 : G15.ok w0 M0) (hG16 : G16.ok w0 M0) {r : ByteArray} (h : text_Show_63.f K d1 a6 a7 a8 a9 d0 = some r) :
  Calls Tryz.prog 63 #[.agg #[iA d1, iB a6, iB a7, iC a8, iA a9, iA d0]] w0 (text_Show_63.post M0 w0 r) := by
 unfold text_Show_63.f at h
 have h0 : Holds M0 w0 w0 [] := Holds.start ho
 have h0g1 := h0.aG hG1
 have h0g2 := h0g1.aG hG2
 have h0g3 := h0g2.aG hG3
 have h0g4 := h0g3.aG hG4
 have h0g5 := h0g4.aG hG5
 have h0g6 := h0g5.aG hG6
 have h0g7 := h0g6.aG hG7
 have h0g8 := h0g7.aG hG8
 have h0g9 := h0g8.aG hG9
 have h0g10 := h0g9.aG hG10
 have h0g11 := h0g10.aG hG11
 have h0g12 := h0g11.aG hG12
 have h0g15 := h0g12.aG hG15
 have h0g16 := h0g15.aG hG16
 have h0 : Holds M0 w0 w0 [G1, G2, G3, G4, G5, G6, G7, G8, G9, G10, G11, G12, G15, G16] := h0g16
 refine calls_of F63 rfl [.agg #[iA d1, iB a6, iB a7, iC a8, iA a9, iA d0]] (by kernel_rfl) (Xg 1 [.c 1, .c 2] (Xr (Yx 1 25 [iA d1, iB a6, iB a7, iC a8, iA a9, iA d0] h0 ?_)))
 intro w1 b2 h3 hb4 hn5
 refine Yd 1 [(1, pt b2)] (Xg 1 [.c 3, .c 4] (Xr (Ya 5 14 25 b2 0 (.agg #[iA d1, iB a6, iB a7, iC a8, iA a9, iA d0]) h3 rfl ?_)))
 obtain ⟨⟨t10, t11, t12, t13, t14, t15, t16, t17, t18, t19, t20⟩, hg9, h⟩ := of_bind h
 dsimp only at h
 refine Yc 6 93 #[.agg #[iA d1, iB a6, iB a7, iC a8, iA a9, iA d0]] ((text_of_93_ok K _ w1  d1 a6 a7 a8 a9 d0 h3.old' hg9).mono ?_)
 rintro _ w6 ⟨rfl, hb7⟩
 refine ⟨_, rfl, ?_⟩
 have h8 := h3.call hb7
 refine Yx 3 126 [iA 0, iB 0, iB 0, iC 0, iA 0, iA 0, iA 0, iA 0, iA 0, iA 0, iA 0] h8 ?_
 intro w21 b22 h23 hb24 hn25
 refine Yb 15 126 b22 0 (.agg #[iA t10, iB t11, iB t12, iC t13, iA t14, iA t15, iA t16, iA t17, iA t18, iA t19, iA t20]) [iA t10, iB t11, iB t12, iC t13, iA t14, iA t15, iA t16, iA t17, iA t18, iA t19, iA t20] h23 rfl ?_
 intro w26 h27 hk28
 refine Ye (Xg 1 [.c 5, .c 6] (Xr (Ya 7 15 126 b22 0 (.agg #[iA t10, iB t11, iB t12, iC t13, iA t14, iA t15, iA t16, iA t17, iA t18, iA t19, iA t20]) h27 rfl (Zp 1 [1, 3, 8] [(3, pt b22), (8, .func (.func 94) #[.agg #[iA t10, iB t11, iB t12, iC t13, iA t14, iA t15, iA t16, iA t17, iA t18, iA t19, iA t20]] #[])] (Ya 9 15 126 b22 0 (.agg #[iA t10, iB t11, iB t12, iC t13, iA t14, iA t15, iA t16, iA t17, iA t18, iA t19, iA t20]) h27 rfl (Zp 1 [1, 3, 8, 10] [(10, .func (.func 95) #[.agg #[iA t10, iB t11, iB t12, iC t13, iA t14, iA t15, iA t16, iA t17, iA t18, iA t19, iA t20]] #[])] (Ya 11 15 126 b22 0 (.agg #[iA t10, iB t11, iB t12, iC t13, iA t14, iA t15, iA t16, iA t17, iA t18, iA t19, iA t20]) h27 rfl (Zp 1 [1, 3, 8, 10, 12] [(12, .func (.func 96) #[.agg #[iA t10, iB t11, iB t12, iC t13, iA t14, iA t15, iA t16, iA t17, iA t18, iA t19, iA t20]] #[])] (Ya 13 15 126 b22 0 (.agg #[iA t10, iB t11, iB t12, iC t13, iA t14, iA t15, iA t16, iA t17, iA t18, iA t19, iA t20]) h27 rfl (Zp 2 [1, 3, 15] [(15, .agg #[.func (.func 94) #[.agg #[iA t10, iB t11, iB t12, iC t13, iA t14, iA t15, iA t16, iA t17, iA t18, iA t19, iA t20]] #[], .func (.func 95) #[.agg #[iA t10, iB t11, iB t12, iC t13, iA t14, iA t15, iA t16, iA t17, iA t18, iA t19, iA t20]] #[], .func (.func 96) #[.agg #[iA t10, iB t11, iB t12, iC t13, iA t14, iA t15, iA t16, iA t17, iA t18, iA t19, iA t20]] #[], .func (.func 97) #[.agg #[iA t10, iB t11, iB t12, iC t13, iA t14, iA t15, iA t16, iA t17, iA t18, iA t19, iA t20]] #[]])] (Yx 4 128 [.nilFunc, .nilFunc, .nilFunc, .nilFunc] h27 ?_)))))))))))
 intro w29 b30 h31 hb32 hn33
 refine Yb 16 128 b30 0 (.agg #[.func (.func 94) #[.agg #[iA t10, iB t11, iB t12, iC t13, iA t14, iA t15, iA t16, iA t17, iA t18, iA t19, iA t20]] #[], .func (.func 95) #[.agg #[iA t10, iB t11, iB t12, iC t13, iA t14, iA t15, iA t16, iA t17, iA t18, iA t19, iA t20]] #[], .func (.func 96) #[.agg #[iA t10, iB t11, iB t12, iC t13, iA t14, iA t15, iA t16, iA t17, iA t18, iA t19, iA t20]] #[], .func (.func 97) #[.agg #[iA t10, iB t11, iB t12, iC t13, iA t14, iA t15, iA t16, iA t17, iA t18, iA t19, iA t20]] #[]]) [.func (.func 94) #[.agg #[iA t10, iB t11, iB t12, iC t13, iA t14, iA t15, iA t16, iA t17, iA t18, iA t19, iA t20]] #[], .func (.func 95) #[.agg #[iA t10, iB t11, iB t12, iC t13, iA t14, iA t15, iA t16, iA t17, iA t18, iA t19, iA t20]] #[], .func (.func 96) #[.agg #[iA t10, iB t11, iB t12, iC t13, iA t14, iA t15, iA t16, iA t17, iA t18, iA t19, iA t20]] #[], .func (.func 97) #[.agg #[iA t10, iB t11, iB t12, iC t13, iA t14, iA t15, iA t16, iA t17, iA t18, iA t19, iA t20]] #[]] h31 rfl ?_
 intro w34 h35 hk36
 refine Zy 2 8 [.c 9, .c 45] 1 [3, 4, 16] [(4, pt b30), (16, pt b2)] (Ya 17 14 3 b2 0 (iA d1) h35 rfl (Zy 3 12 [.c 13, .c 20, .blk 0, .c 45] 2 [3, 4, 17, 18] [(17, iA d1), (18, tB (d1 == 0))] (Ye ?_)))
 obtain ⟨j42, hJ43, h⟩ := of_let h
 have hj44 : ∀ (t39 : Bool) (w41 : World), j42 t39 = some r → Holds M0 w0 w41 [box b22 126 [iA t10, iB t11, iB t12, iC t13, iA t14, iA t15, iA t16, iA t17, iA t18, iA t19, iA t20], box b30 128 [.func (.func 94) #[.agg #[iA t10, iB t11, iB t12, iC t13, iA t14, iA t15, iA t16, iA t17, iA t18, iA t19, iA t20]] #[], .func (.func 95) #[.agg #[iA t10, iB t11, iB t12, iC t13, iA t14, iA t15, iA t16, iA t17, iA t18, iA t19, iA t20]] #[], .func (.func 96) #[.agg #[iA t10, iB t11, iB t12, iC t13, iA t14, iA t15, iA t16, iA t17, iA t18, iA t19, iA t20]] #[], .func (.func 97) #[.agg #[iA t10, iB t11, iB t12, iC t13, iA t14, iA t15, iA t16, iA t17, iA t18, iA t19, iA t20]] #[]], G1, G2, G3, G4, G5, G6, G7, G8, G9, G10, G11, G12, G15, G16] → RunsI F63 [.c 20, .blk 0, .c 45] [(3, pt b22), (4, pt b30), (17, iA d1), (18, tB t39)] w41 (text_Show_63.post M0 w0 r) := by
  intro t39 w41 h h40
  rw [hJ43] at h
  clear hJ43
  dsimp only at h
  refine Vc 18 21 24 h (fun hc45 h => ?_) fun hc45 h => ?_
  ·refine Xq 1 22 [.c 23, .blk 0, .c 45] 1 [(4, pt b30), (22, pu b22 6)] (Ya 23 0 3 b22 6 (iA t16) h40 rfl ?_)
   rcases oc h with ⟨hc46, h⟩ | ⟨hc46, h⟩
   ·refine Yo (OpE.run 24 (by kernel_rfl) (run_idxArrK (T := 128) (b := b30) (o := 0) (ix := t16) (k := 0) (len := 4) (s := 1) (by kernel_rfl) (by kernel_rfl) hc46 (by kernel_rfl)) (Ya 25 1 65 b30 0 (.func (.func 94) #[.agg #[iA t10, iB t11, iB t12, iC t13, iA t14, iA t15, iA t16, iA t17, iA t18, iA t19, iA t20]] #[]) h40 rfl ?_))
    obtain ⟨t51, hg50, h⟩ := of_bind h
    refine Yc 26 94 #[.agg #[iA t10, iB t11, iB t12, iC t13, iA t14, iA t15, iA t16, iA t17, iA t18, iA t19, iA t20]] ((text_shown_low_94_ok K _ w41  t10 t11 t12 t13 t14 t15 t16 t17 t18 t19 t20 h40.old' (h40.get 2 rfl) (h40.get 3 rfl) (h40.get 7 rfl) (h40.get 8 rfl) (h40.get 13 rfl) (h40.get 14 rfl) (h40.get 15 rfl) hg50).mono ?_)
    rintro _ w47 ⟨rfl, hb48⟩
    refine ⟨_, rfl, ?_⟩
    have h49 := h40.call hb48
    refine Yd 1 [(2, tS t51)] ?_
    obtain rfl := sI h
    exact Xt (tS t51) ⟨rfl, h49.below⟩
   ·rcases oc h with ⟨hc52, h⟩ | ⟨hc52, h⟩
    ·refine Yo (OpE.run 24 (by kernel_rfl) (run_idxArrK (T := 128) (b := b30) (o := 0) (ix := t16) (k := 1) (len := 4) (s := 1) (by kernel_rfl) (by kernel_rfl) hc52 (by kernel_rfl)) (Ya 25 1 65 b30 1 (.func (.func 95) #[.agg #[iA t10, iB t11, iB t12, iC t13, iA t14, iA t15, iA t16, iA t17, iA t18, iA t19, iA t20]] #[]) h40 rfl ?_))
     obtain ⟨t57, hg56, h⟩ := of_bind h
     refine Yc 26 95 #[.agg #[iA t10, iB t11, iB t12, iC t13, iA t14, iA t15, iA t16, iA t17, iA t18, iA t19, iA t20]] ((text_shown_moves_95_ok K _ w41  t10 t11 t12 t13 t14 t15 t16 t17 t18 t19 t20 h40.old' (h40.get 7 rfl) (h40.get 13 rfl) hg56).mono ?_)
     rintro _ w53 ⟨rfl, hb54⟩
     refine ⟨_, rfl, ?_⟩
     have h55 := h40.call hb54
     refine Yd 1 [(2, tS t57)] ?_
     obtain rfl := sI h
     exact Xt (tS t57) ⟨rfl, h55.below⟩
    ·rcases oc h with ⟨hc58, h⟩ | ⟨hc58, h⟩
     ·refine Yo (OpE.run 24 (by kernel_rfl) (run_idxArrK (T := 128) (b := b30) (o := 0) (ix := t16) (k := 2) (len := 4) (s := 1) (by kernel_rfl) (by kernel_rfl) hc58 (by kernel_rfl)) (Ya 25 1 65 b30 2 (.func (.func 96) #[.agg #[iA t10, iB t11, iB t12, iC t13, iA t14, iA t15, iA t16, iA t17, iA t18, iA t19, iA t20]] #[]) h40 rfl ?_))
      obtain ⟨t63, hg62, h⟩ := of_bind h
      refine Yc 26 96 #[.agg #[iA t10, iB t11, iB t12, iC t13, iA t14, iA t15, iA t16, iA t17, iA t18, iA t19, iA t20]] ((text_shown_sums_96_ok K _ w41  t10 t11 t12 t13 t14 t15 t16 t17 t18 t19 t20 h40.old' (h40.get 4 rfl) (h40.get 7 rfl) (h40.get 13 rfl) hg62).mono ?_)
      rintro _ w59 ⟨rfl, hb60⟩
      refine ⟨_, rfl, ?_⟩
      have h61 := h40.call hb60
      refine Yd 1 [(2, tS t63)] ?_
      obtain rfl := sI h
      exact Xt (tS t63) ⟨rfl, h61.below⟩
     ·have ⟨hc64, h⟩ := oz h
      refine Yo (OpE.run 24 (by kernel_rfl) (run_idxArrK (T := 128) (b := b30) (o := 0) (ix := t16) (k := 3) (len := 4) (s := 1) (by kernel_rfl) (by kernel_rfl) hc64 (by kernel_rfl)) (Ya 25 1 65 b30 3 (.func (.func 97) #[.agg #[iA t10, iB t11, iB t12, iC t13, iA t14, iA t15, iA t16, iA t17, iA t18, iA t19, iA t20]] #[]) h40 rfl ?_))
      obtain ⟨t69, hg68, h⟩ := of_bind h
      refine Yc 26 97 #[.agg #[iA t10, iB t11, iB t12, iC t13, iA t14, iA t15, iA t16, iA t17, iA t18, iA t19, iA t20]] ((text_shown_high_97_ok K _ w41  t10 t11 t12 t13 t14 t15 t16 t17 t18 t19 t20 h40.old' (h40.get 2 rfl) (h40.get 4 rfl) (h40.get 8 rfl) (h40.get 13 rfl) (h40.get 14 rfl) (h40.get 15 rfl) hg68).mono ?_)
      rintro _ w65 ⟨rfl, hb66⟩
      refine ⟨_, rfl, ?_⟩
      have h67 := h40.call hb66
      refine Yd 1 [(2, tS t69)] ?_
      obtain rfl := sI h
      exact Xt (tS t69) ⟨rfl, h67.below⟩
  ·refine Xd 1 25 [.c 26, .blk 0, .c 45] 2 [(3, pt b22), (17, iA d1), (27, tB (d1 == 2))] (Vc 27 27 30 h (fun hc70 h => ?_) fun hc70 h => ?_)
   ·refine Xg 1 [.c 28, .c 29, .blk 0, .c 45] (Xr (Ya 29 0 126 b22 0 (.agg #[iA t10, iB t11, iB t12, iC t13, iA t14, iA t15, iA t16, iA t17, iA t18, iA t19, iA t20]) h40 rfl ?_))
    obtain ⟨t75, hg74, h⟩ := of_bind h
    refine Yc 30 98 #[.agg #[iA t10, iB t11, iB t12, iC t13, iA t14, iA t15, iA t16, iA t17, iA t18, iA t19, iA t20]] ((text_shown_far_98_ok K _ w41  t10 t11 t12 t13 t14 t15 t16 t17 t18 t19 t20 h40.old' (h40.get 5 rfl) (h40.get 6 rfl) (h40.get 7 rfl) (h40.get 8 rfl) (h40.get 9 rfl) (h40.get 10 rfl) (h40.get 13 rfl) (h40.get 14 rfl) (h40.get 15 rfl) hg74).mono ?_)
    rintro _ w71 ⟨rfl, hb72⟩
    refine ⟨_, rfl, ?_⟩
    have h73 := h40.call hb72
    refine Yd 1 [(2, tS t75)] ?_
    obtain rfl := sI h
    exact Xt (tS t75) ⟨rfl, h73.below⟩
   ·refine Xd 2 32 [.c 33, .c 40, .blk 0, .c 45] 2 [(3, pt b22), (17, iA d1), (31, tB (d1 == 1))] ?_
    obtain ⟨j81, hJ82, h⟩ := of_let h
    have hj83 : ∀ (t78 : Bool) (w80 : World), j81 t78 = some r → Holds M0 w0 w80 [box b22 126 [iA t10, iB t11, iB t12, iC t13, iA t14, iA t15, iA t16, iA t17, iA t18, iA t19, iA t20], G1, G2, G3, G4, G5, G6, G7, G8, G9, G10, G11, G12, G15, G16] → RunsI F63 [.c 40, .blk 0, .c 45] [(3, pt b22), (31, tB t78)] w80 (text_Show_63.post M0 w0 r) := by
     intro t78 w80 h h79
     rw [hJ82] at h
     clear hJ82
     dsimp only at h
     refine Vc 31 41 44 h (fun hc84 h => ?_) fun hc84 h => ?_
     ·refine Xg 1 [.c 42, .c 43, .blk 0, .c 45] (Xr (Ya 35 0 126 b22 0 (.agg #[iA t10, iB t11, iB t12, iC t13, iA t14, iA t15, iA t16, iA t17, iA t18, iA t19, iA t20]) h79 rfl ?_))
      obtain ⟨t89, hg88, h⟩ := of_bind h
      refine Yc 36 99 #[.agg #[iA t10, iB t11, iB t12, iC t13, iA t14, iA t15, iA t16, iA t17, iA t18, iA t19, iA t20]] ((text_shown_bit_99_ok K _ w80  t10 t11 t12 t13 t14 t15 t16 t17 t18 t19 t20 h79.old' (h79.get 6 rfl) (h79.get 10 rfl) (h79.get 11 rfl) (h79.get 12 rfl) hg88).mono ?_)
      rintro _ w85 ⟨rfl, hb86⟩
      refine ⟨_, rfl, ?_⟩
      have h87 := h79.call hb86
      refine Yd 1 [(2, tS t89)] ?_
      obtain rfl := sI h
      exact Xt (tS t89) ⟨rfl, h87.below⟩
     ·refine Xg 1 [.blk 0, .c 45] (Xd 2 46 [.c 47] 1 [(2, tS (⟨#[63]⟩ : ByteArray))] ?_)
      obtain rfl := sI h
      exact Xt (tS (⟨#[63]⟩ : ByteArray)) ⟨rfl, h79.below⟩
    clear hJ82
    refine Vc 31 34 35 h (fun hc76 h => ?_) fun hc76 h => ?_
    ·refine Xg 1 [.c 40, .blk 0, .c 45] (Vl [(3, pt b22), (31, tB true)] ?_)
     exact hj83 true w41 h (h40.pk [0, 2, 3, 4, 5, 6, 7, 8, 9, 10, 11, 12, 13, 14, 15])
    ·refine Xd 1 36 [.c 37, .c 40, .blk 0, .c 45] 2 [(3, pt b22), (17, iA d1), (31, tB (d1 == 5))] (Vc 31 38 39 h (fun hc77 h => ?_) fun hc77 h => ?_)
     ·refine Xg 1 [.c 40, .blk 0, .c 45] (Vl [(3, pt b22), (31, tB true)] ?_)
      exact hj83 true w41 h (h40.pk [0, 2, 3, 4, 5, 6, 7, 8, 9, 10, 11, 12, 13, 14, 15])
     ·refine Xr (Yd 2 [(3, pt b22), (31, tB (d1 == 6))] (Vl [(3, pt b22), (31, tB (d1 == 6))] ?_))
      exact hj83 (d1 == 6) w41 h (h40.pk [0, 2, 3, 4, 5, 6, 7, 8, 9, 10, 11, 12, 13, 14, 15])
 clear hJ43
 refine Vc 18 14 15 h (fun hc37 h => ?_) fun hc37 h => ?_
 ·refine Xg 1 [.c 20, .blk 0, .c 45] (Vl [(3, pt b22), (4, pt b30), (17, iA d1), (18, tB true)] ?_)
  exact hj44 true w34 h (h35.pk [15, 16, 0, 1, 2, 3, 4, 5, 6, 7, 8, 9, 10, 11, 12, 13])
 ·refine Xd 1 16 [.c 17, .c 20, .blk 0, .c 45] 2 [(3, pt b22), (4, pt b30), (17, iA d1), (18, tB (d1 == 3))] (Vc 18 18 19 h (fun hc38 h => ?_) fun hc38 h => ?_)
  ·refine Xg 1 [.c 20, .blk 0, .c 45] (Vl [(3, pt b22), (4, pt b30), (17, iA d1), (18, tB true)] ?_)
   exact hj44 true w34 h (h35.pk [15, 16, 0, 1, 2, 3, 4, 5, 6, 7, 8, 9, 10, 11, 12, 13])
  ·refine Xr (Yd 2 [(3, pt b22), (4, pt b30), (17, iA d1), (18, tB (d1 == 4))] (Vl [(3, pt b22), (4, pt b30), (17, iA d1), (18, tB (d1 == 4))] ?_))
   exact hj44 (d1 == 4) w34 h (h35.pk [15, 16, 0, 1, 2, 3, 4, 5, 6, 7, 8, 9, 10, 11, 12, 13])
end

section
abbrev listing_one_text_38.post := pS
def listing_one_text_38.f (K : Nat) (p0_0 : Int) (p0_1 : List Int) (p0_2_0 : Int) (p0_2_1 : Int) (p0_2_2 : Int) (p0_2_3 : Int) (p0_2_4 : Int) (p0_2_5 : Int) (p0_3 : Bool) : Option ByteArray := cond (!p0_3) (some (⟨#[46, 46]⟩ : ByteArray)) ((text_Show_63.f K p0_2_0 p0_2_1 p0_2_2 p0_2_3 p0_2_4 p0_2_5).bind fun t11 => some t11)
theorem listing_one_text_38_ok (K : Nat) (M0 : Nat → Prop) (w0 : World) (pA0_1 : Option Addr) (pc0_1 : Nat) (d1 : Int) (a6 : List Int) (d2 : Int) (d3 : Int) (d4 : Int) (d5 : Int) (d6 : Int) (d7 : Int) (a8 : Bool) (ho : ∀ b, M0 b → b < w0.heap.size) (hs0_1 : Sl rB w0 M0 (sV pA0_1 a6 pc0_1) a6) (hG1 : G1.ok w0 M0) (hG2 : G2.ok w0 M0) (hG3 : G3.ok w0 M0) (hG4 : G4.ok w0 M0) (hG5 : G5.ok w0 M0) (hG6 : G6.ok w0 M0) (hG7 : G7.ok w0 M0) (hG8 : G8.ok w0 M0) (hG9 : G9.ok w0 M0) (hG10 : G10.ok w0 M0) (hG11 : G11.ok w0 M0) (hG12 : G12.ok w0 M0) (hG15 : G15.ok w0 M0) (hG16 : G16.ok w0 M0) {r : ByteArray} (h : listing_one_text_38.f K d1 a6 d2 d3 d4 d5 d6 d7 a8 = some r) :
  Calls Tryz.prog 38 #[.agg #[iC d1, sV pA0_1 a6 pc0_1, iA d2, iB d3, iB d4, iC d5, iA d6, iA d7, tB a8]] w0 (listing_one_text_38.post M0 w0 r) := by
 unfold listing_one_text_38.f at h
 have h0 : Holds M0 w0 w0 [] := Holds.start ho
 have h00_1 := h0.aS hs0_1
 have h0g1 := h00_1.aG hG1
 have h0g2 := h0g1.aG hG2
 have h0g3 := h0g2.aG hG3
 have h0g4 := h0g3.aG hG4
 have h0g5 := h0g4.aG hG5
 have h0g6 := h0g5.aG hG6
 have h0g7 := h0g6.aG hG7
 have h0g8 := h0g7.aG hG8
 have h0g9 := h0g8.aG hG9
 have h0g10 := h0g9.aG hG10
 have h0g11 := h0g10.aG hG11
 have h0g12 := h0g11.aG hG12
 have h0g15 := h0g12.aG hG15
 have h0g16 := h0g15.aG hG16
 have h0 : Holds M0 w0 w0 [sl rB (sV pA0_1 a6 pc0_1) a6, G1, G2, G3, G4, G5, G6, G7, G8, G9, G10, G11, G12, G15, G16] := h0g16
 refine calls_of F38 rfl [.agg #[iC d1, sV pA0_1 a6 pc0_1, iA d2, iB d3, iB d4, iC d5, iA d6, iA d7, tB a8]] (by kernel_rfl) (Xg 1 [.c 1, .c 2] (Xr (Yx 1 53 [iC d1, sV pA0_1 a6 pc0_1, iA d2, iB d3, iB d4, iC d5, iA d6, iA d7, tB a8] h0 ?_)))
 intro w1 b2 h3 hb4 hn5
 refine Yp 1 [(1, pt b2)] (Zy 2 4 [.c 5, .c 10] 1 [1, 3] [(3, pu b2 8)] (Ya 4 15 4 b2 8 (tB a8) h3 rfl (Zd 1 [1, 5] [(5, tB (!a8))] (Vc 5 6 9 h (fun hc6 h => ?_) fun hc6 h => ?_))))
 ·refine Xd 1 7 [.c 8, .c 10] 1 [(2, tS (⟨#[46, 46]⟩ : ByteArray))] ?_
  obtain rfl := sI h
  exact Xt (tS (⟨#[46, 46]⟩ : ByteArray)) ⟨rfl, h3.below⟩
 ·refine Xg 1 [.c 10] (Xq 1 11 [.c 12] 1 [(6, pu b2 2)] (Ya 7 15 25 b2 2 (.agg #[iA d2, iB d3, iB d4, iC d5, iA d6, iA d7]) h3 rfl ?_))
  obtain ⟨t11, hg10, h⟩ := of_bind h
  refine Yc 8 63 #[.agg #[iA d2, iB d3, iB d4, iC d5, iA d6, iA d7]] ((text_Show_63_ok K _ w1  d2 d3 d4 d5 d6 d7 h3.old' (h3.get 1 rfl) (h3.get 2 rfl) (h3.get 3 rfl) (h3.get 4 rfl) (h3.get 5 rfl) (h3.get 6 rfl) (h3.get 7 rfl) (h3.get 8 rfl) (h3.get 9 rfl) (h3.get 10 rfl) (h3.get 11 rfl) (h3.get 12 rfl) (h3.get 13 rfl) (h3.get 14 rfl) hg10).mono ?_)
  rintro _ w7 ⟨rfl, hb8⟩
  refine ⟨_, rfl, ?_⟩
  have h9 := h3.call hb8
  refine Yd 1 [(2, tS t11)] ?_
  obtain rfl := sI h
  exact Xt (tS t11) ⟨rfl, h9.below⟩
end
end Go.Proofs.YtbcepghanbkncaaGreatDoor.LiT
