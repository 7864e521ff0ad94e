/- Functions of the program as plain Lean functions, each with the proof that the call comes to it; written by wip/eng.py. -/
import Derived.Test.YtbcepghanbkncaaGreatDoorEngShort2
import Derived.Test.YtbcepghanbkncaaGreatDoorLiL6
set_option linter.unusedVariables false
set_option linter.unusedSimpArgs false
set_option maxHeartbeats 4000000
namespace Go.Proofs.YtbcepghanbkncaaGreatDoor.LiL
open Go.RowKit Go.Eng
set_option maxRecDepth 100000
abbrev sg0 : ByteArray := ⟨#[41]⟩
abbrev sg1 : ByteArray := ⟨#[108, 100, 32]⟩
abbrev sg2 : ByteArray := ⟨#[44]⟩
abbrev sg3 : ByteArray := ⟨#[40]⟩
abbrev sg4 : ByteArray := ⟨#[48]⟩
abbrev sg5 : ByteArray := ⟨#[108, 100]⟩
abbrev sg6 : ByteArray := ⟨#[99, 112]⟩
abbrev sg7 : ByteArray := ⟨#[105, 110]⟩
abbrev sg8 : ByteArray := ⟨#[111, 116]⟩
abbrev sg9 : ByteArray := ⟨#[106, 114, 32]⟩
abbrev sg10 : ByteArray := ⟨#[105]⟩
abbrev sg11 : ByteArray := ⟨#[100]⟩
abbrev sg12 : ByteArray := ⟨#[105, 114]⟩
abbrev sg13 : ByteArray := ⟨#[100, 114]⟩
abbrev sg14 : ByteArray := ⟨#[110, 111, 112, 42]⟩
abbrev sg15 : ByteArray := ⟨#[32]⟩
abbrev sg16 : ByteArray := ⟨#[106, 112, 32]⟩
abbrev sg17 : ByteArray := ⟨#[58, 32]⟩
abbrev sg18 : ByteArray := ⟨#[105, 110, 99, 32]⟩
abbrev sg19 : ByteArray := ⟨#[100, 101, 99, 32]⟩
abbrev sg20 : ByteArray := ⟨#[100, 106, 110, 122, 32]⟩
abbrev sg21 : ByteArray := ⟨#[110, 111, 112]⟩
abbrev sg22 : ByteArray := ⟨#[101, 120, 32, 97, 102, 44, 97, 102, 39]⟩
abbrev sg23 : ByteArray := ⟨#[106, 112, 32, 40]⟩
abbrev sg24 : ByteArray := ⟨#[99, 97, 108, 108, 32]⟩
abbrev sg25 : ByteArray := ⟨#[115, 112]⟩
abbrev sg26 : ByteArray := ⟨#[105, 110, 32]⟩
abbrev sg27 : ByteArray := ⟨#[115, 98, 99, 32, 104, 108, 44]⟩
abbrev sg28 : ByteArray := ⟨#[97, 100, 99, 32, 104, 108, 44]⟩
abbrev sg29 : ByteArray := ⟨#[44, 97]⟩
abbrev sg30 : ByteArray := ⟨#[111, 117, 116, 32, 40]⟩
abbrev sg31 : ByteArray := ⟨#[105, 110, 32, 97, 44, 40]⟩
abbrev sg32 : ByteArray := ⟨#[112, 114, 101, 102, 105, 120]⟩
abbrev sg33 : ByteArray := ⟨#[49]⟩
abbrev sg34 : ByteArray := ⟨#[50]⟩
abbrev sg35 : ByteArray := ⟨#[108, 100, 32, 97, 44]⟩
abbrev sg36 : ByteArray := ⟨#[108, 100, 32, 115, 112, 44]⟩
abbrev sg37 : ByteArray := ⟨#[41, 44, 97]⟩
abbrev sg38 : ByteArray := ⟨#[101, 120, 32, 40, 115, 112, 41, 44]⟩
abbrev sg39 : ByteArray := ⟨#[111, 117, 116]⟩
abbrev sg40 : ByteArray := ⟨#[102]⟩
abbrev sg41 : ByteArray := ⟨#[44, 40, 99, 41]⟩
abbrev sg42 : ByteArray := ⟨#[111, 117, 116, 32, 40, 99, 41, 44]⟩
abbrev sg43 : ByteArray := ⟨#[108, 100, 32, 40]⟩
abbrev sg44 : ByteArray := ⟨#[108, 100, 32, 105, 44, 97]⟩
abbrev sg45 : ByteArray := ⟨#[108, 100, 32, 114, 44, 97]⟩
abbrev sg46 : ByteArray := ⟨#[108, 100, 32, 97, 44, 105]⟩
abbrev sg47 : ByteArray := ⟨#[108, 100, 32, 97, 44, 114]⟩
abbrev sg48 : ByteArray := ⟨#[114, 114, 100]⟩
abbrev sg49 : ByteArray := ⟨#[114, 108, 100]⟩
abbrev sg50 : ByteArray := ⟨#[97, 100, 100, 32]⟩
abbrev sg51 : ByteArray := ⟨#[108, 100, 32, 40, 98, 99, 41, 44, 97]⟩
abbrev sg52 : ByteArray := ⟨#[108, 100, 32, 97, 44, 40, 98, 99, 41]⟩
abbrev sg53 : ByteArray := ⟨#[108, 100, 32, 40, 100, 101, 41, 44, 97]⟩
abbrev sg54 : ByteArray := ⟨#[108, 100, 32, 97, 44, 40, 100, 101, 41]⟩
abbrev sg55 : ByteArray := ⟨#[114, 108, 99, 97]⟩
abbrev sg56 : ByteArray := ⟨#[114, 114, 99, 97]⟩
abbrev sg57 : ByteArray := ⟨#[114, 108, 97]⟩
abbrev sg58 : ByteArray := ⟨#[114, 114, 97]⟩
abbrev sg59 : ByteArray := ⟨#[100, 97, 97]⟩
abbrev sg60 : ByteArray := ⟨#[99, 112, 108]⟩
abbrev sg61 : ByteArray := ⟨#[115, 99, 102]⟩
abbrev sg62 : ByteArray := ⟨#[99, 99, 102]⟩
abbrev sg63 : ByteArray := ⟨#[114, 101, 116]⟩
abbrev sg64 : ByteArray := ⟨#[101, 120, 120]⟩
abbrev sg65 : ByteArray := ⟨#[101, 120, 32, 100, 101, 44, 104, 108]⟩
abbrev sg66 : ByteArray := ⟨#[100, 105]⟩
abbrev sg67 : ByteArray := ⟨#[101, 105]⟩
abbrev sg68 : ByteArray := ⟨#[41, 44]⟩
abbrev sg69 : ByteArray := ⟨#[44, 40]⟩
abbrev sg70 : ByteArray := ⟨#[110, 122]⟩
abbrev sg71 : ByteArray := ⟨#[122]⟩
abbrev sg72 : ByteArray := ⟨#[110, 99]⟩
abbrev sg73 : ByteArray := ⟨#[99]⟩
abbrev sg74 : ByteArray := ⟨#[112, 111]⟩
abbrev sg75 : ByteArray := ⟨#[112, 101]⟩
abbrev sg76 : ByteArray := ⟨#[112]⟩
abbrev sg77 : ByteArray := ⟨#[109]⟩
abbrev sg78 : ByteArray := ⟨#[97, 100, 100, 32, 97, 44]⟩
abbrev sg79 : ByteArray := ⟨#[97, 100, 99, 32, 97, 44]⟩
abbrev sg80 : ByteArray := ⟨#[115, 117, 98, 32]⟩
abbrev sg81 : ByteArray := ⟨#[115, 98, 99, 32, 97, 44]⟩
abbrev sg82 : ByteArray := ⟨#[97, 110, 100, 32]⟩
abbrev sg83 : ByteArray := ⟨#[120, 111, 114, 32]⟩
abbrev sg84 : ByteArray := ⟨#[111, 114, 32]⟩
abbrev sg85 : ByteArray := ⟨#[99, 112, 32]⟩
abbrev sg86 : ByteArray := ⟨#[97, 102]⟩
abbrev sg87 : ByteArray := ⟨#[46, 46]⟩
abbrev sg88 : ByteArray := ⟨#[105, 109, 32]⟩
abbrev sg89 : ByteArray := ⟨#[114, 101, 116, 32]⟩
abbrev sg90 : ByteArray := ⟨#[112, 111, 112, 32]⟩
abbrev sg91 : ByteArray := ⟨#[112, 117, 115, 104, 32]⟩
abbrev sg92 : ByteArray := ⟨#[114, 115, 116, 32]⟩
section
abbrev charabancref09_ed_69.post := pS
def charabancref09_ed_69.f (K : Nat) (p0_0 : Int) (p0_1 : Int) (p0_2 : Int) (p0_3 : Int) (p0_4 : Int) (p0_5 : Int) (p1 : Int) (p2 : Int) (p3 : Int) (p4 : Int) (p5 : Int) : Option ByteArray := Let (fun (t8 : Bool) => cond t8 (cond (inR p3 ([(⟨#[108, 100]⟩ : ByteArray), (⟨#[99, 112]⟩ : ByteArray), (⟨#[105, 110]⟩ : ByteArray), (⟨#[111, 116]⟩ : ByteArray)] : List ByteArray).length) (Let (fun (t25 : Bool) => cond t25 (cond (inR (IntKind.wrap .i64 (p2 - 4)) ([(⟨#[105]⟩ : ByteArray), (⟨#[100]⟩ : ByteArray), (⟨#[105, 114]⟩ : ByteArray), (⟨#[100, 114]⟩ : ByteArray)] : List ByteArray).length) (cond (mayCat (⟨#[111, 117, 116]⟩ : ByteArray).size (rdD ([(⟨#[105]⟩ : ByteArray), (⟨#[100]⟩ : ByteArray), (⟨#[105, 114]⟩ : ByteArray), (⟨#[100, 114]⟩ : ByteArray)] : List ByteArray) (IntKind.wrap .i64 (p2 - 4))).size) (some ((⟨#[111, 117, 116]⟩ : ByteArray) ++ (rdD ([(⟨#[105]⟩ : ByteArray), (⟨#[100]⟩ : ByteArray), (⟨#[105, 114]⟩ : ByteArray), (⟨#[100, 114]⟩ : ByteArray)] : List ByteArray) (IntKind.wrap .i64 (p2 - 4))))) none) none) (cond (inR (IntKind.wrap .i64 (p2 - 4)) ([(⟨#[105]⟩ : ByteArray), (⟨#[100]⟩ : ByteArray), (⟨#[105, 114]⟩ : ByteArray), (⟨#[100, 114]⟩ : ByteArray)] : List ByteArray).length) (cond (mayCat (rdD ([(⟨#[108, 100]⟩ : ByteArray), (⟨#[99, 112]⟩ : ByteArray), (⟨#[105, 110]⟩ : ByteArray), (⟨#[111, 116]⟩ : ByteArray)] : List ByteArray) p3).size (rdD ([(⟨#[105]⟩ : ByteArray), (⟨#[100]⟩ : ByteArray), (⟨#[105, 114]⟩ : ByteArray), (⟨#[100, 114]⟩ : ByteArray)] : List ByteArray) (IntKind.wrap .i64 (p2 - 4))).size) (some ((rdD ([(⟨#[108, 100]⟩ : ByteArray), (⟨#[99, 112]⟩ : ByteArray), (⟨#[105, 110]⟩ : ByteArray), (⟨#[111, 116]⟩ : ByteArray)] : List ByteArray) p3) ++ (rdD ([(⟨#[105]⟩ : ByteArray), (⟨#[100]⟩ : ByteArray), (⟨#[105, 114]⟩ : ByteArray), (⟨#[100, 114]⟩ : ByteArray)] : List ByteArray) (IntKind.wrap .i64 (p2 - 4))))) none) none)) (fun j28 => cond (p3 == 3) (j28 (decide (p2 < 6))) (j28 false))) none) (cond (p1 != 1) (some (⟨#[110, 111, 112, 42]⟩ : ByteArray)) ((charabancref09_reg_71.f K 0 0 0 0 0 0 p2).bind fun t57 => (charabancref09_pair_108.f K 0 0 0 0 0 0 p4 (⟨#[115, 112]⟩ : ByteArray)).bind fun t62 => cond (p3 == 0) (cond (p2 == 6) (cond (mayCat (⟨#[105, 110, 32]⟩ : ByteArray).size (⟨#[102]⟩ : ByteArray).size) (cond (mayCat ((⟨#[105, 110, 32]⟩ : ByteArray) ++ (⟨#[102]⟩ : ByteArray)).size (⟨#[44, 40, 99, 41]⟩ : ByteArray).size) (some (((⟨#[105, 110, 32]⟩ : ByteArray) ++ (⟨#[102]⟩ : ByteArray)) ++ (⟨#[44, 40, 99, 41]⟩ : ByteArray))) none) none) (cond (mayCat (⟨#[105, 110, 32]⟩ : ByteArray).size t57.size) (cond (mayCat ((⟨#[105, 110, 32]⟩ : ByteArray) ++ t57).size (⟨#[44, 40, 99, 41]⟩ : ByteArray).size) (some (((⟨#[105, 110, 32]⟩ : ByteArray) ++ t57) ++ (⟨#[44, 40, 99, 41]⟩ : ByteArray))) none) none)) (cond (p3 == 1) (cond (p2 == 6) (cond (mayCat (⟨#[111, 117, 116, 32, 40, 99, 41, 44]⟩ : ByteArray).size (⟨#[48]⟩ : ByteArray).size) (some ((⟨#[111, 117, 116, 32, 40, 99, 41, 44]⟩ : ByteArray) ++ (⟨#[48]⟩ : ByteArray))) none) (cond (mayCat (⟨#[111, 117, 116, 32, 40, 99, 41, 44]⟩ : ByteArray).size t57.size) (some ((⟨#[111, 117, 116, 32, 40, 99, 41, 44]⟩ : ByteArray) ++ t57)) none)) (cond (p3 == 2) (cond (inR p5 ([(⟨#[115, 98, 99, 32, 104, 108, 44]⟩ : ByteArray), (⟨#[97, 100, 99, 32, 104, 108, 44]⟩ : ByteArray)] : List ByteArray).length) (cond (mayCat (rdD ([(⟨#[115, 98, 99, 32, 104, 108, 44]⟩ : ByteArray), (⟨#[97, 100, 99, 32, 104, 108, 44]⟩ : ByteArray)] : List ByteArray) p5).size t62.size) (some ((rdD ([(⟨#[115, 98, 99, 32, 104, 108, 44]⟩ : ByteArray), (⟨#[97, 100, 99, 32, 104, 108, 44]⟩ : ByteArray)] : List ByteArray) p5) ++ t62)) none) none) (cond (p3 == 3) (cond (p5 == 0) ((charabancref09_nn_109.f K p0_0 p0_1 p0_2 p0_3 p0_4 p0_5).bind fun t90 => cond (mayCat (⟨#[108, 100, 32, 40]⟩ : ByteArray).size t90.size) (cond (mayCat ((⟨#[108, 100, 32, 40]⟩ : ByteArray) ++ t90).size (⟨#[41, 44]⟩ : ByteArray).size) (cond (mayCat (((⟨#[108, 100, 32, 40]⟩ : ByteArray) ++ t90) ++ (⟨#[41, 44]⟩ : ByteArray)).size t62.size) (some ((((⟨#[108, 100, 32, 40]⟩ : ByteArray) ++ t90) ++ (⟨#[41, 44]⟩ : ByteArray)) ++ t62)) none) none) none) (cond (mayCat (⟨#[108, 100, 32]⟩ : ByteArray).size t62.size) (cond (mayCat ((⟨#[108, 100, 32]⟩ : ByteArray) ++ t62).size (⟨#[44, 40]⟩ : ByteArray).size) ((charabancref09_nn_109.f K p0_0 p0_1 p0_2 p0_3 p0_4 p0_5).bind fun t100 => cond (mayCat (((⟨#[108, 100, 32]⟩ : ByteArray) ++ t62) ++ (⟨#[44, 40]⟩ : ByteArray)).size t100.size) (cond (mayCat ((((⟨#[108, 100, 32]⟩ : ByteArray) ++ t62) ++ (⟨#[44, 40]⟩ : ByteArray)) ++ t100).size (⟨#[41]⟩ : ByteArray).size) (some (((((⟨#[108, 100, 32]⟩ : ByteArray) ++ t62) ++ (⟨#[44, 40]⟩ : ByteArray)) ++ t100) ++ (⟨#[41]⟩ : ByteArray))) none) none) none) none)) (cond (p3 == 4) (some (⟨#[110, 101, 103]⟩ : ByteArray)) (cond (p3 == 5) (cond (p2 == 1) (some (⟨#[114, 101, 116, 105]⟩ : ByteArray)) (some (⟨#[114, 101, 116, 110]⟩ : ByteArray))) (cond (p3 == 6) (cond (inR (Int.tmod p2 4) ([(⟨#[48]⟩ : ByteArray), (⟨#[48]⟩ : ByteArray), (⟨#[49]⟩ : ByteArray), (⟨#[50]⟩ : ByteArray)] : List ByteArray).length) (cond (mayCat (⟨#[105, 109, 32]⟩ : ByteArray).size (rdD ([(⟨#[48]⟩ : ByteArray), (⟨#[48]⟩ : ByteArray), (⟨#[49]⟩ : ByteArray), (⟨#[50]⟩ : ByteArray)] : List ByteArray) (Int.tmod p2 4)).size) (some ((⟨#[105, 109, 32]⟩ : ByteArray) ++ (rdD ([(⟨#[48]⟩ : ByteArray), (⟨#[48]⟩ : ByteArray), (⟨#[49]⟩ : ByteArray), (⟨#[50]⟩ : ByteArray)] : List ByteArray) (Int.tmod p2 4)))) none) none) (cond (inR p2 ([(⟨#[108, 100, 32, 105, 44, 97]⟩ : ByteArray), (⟨#[108, 100, 32, 114, 44, 97]⟩ : ByteArray), (⟨#[108, 100, 32, 97, 44, 105]⟩ : ByteArray), (⟨#[108, 100, 32, 97, 44, 114]⟩ : ByteArray), (⟨#[114, 114, 100]⟩ : ByteArray), (⟨#[114, 108, 100]⟩ : ByteArray), (⟨#[110, 111, 112, 42]⟩ : ByteArray), (⟨#[110, 111, 112, 42]⟩ : ByteArray)] : List ByteArray).length) (some (rdD ([(⟨#[108, 100, 32, 105, 44, 97]⟩ : ByteArray), (⟨#[108, 100, 32, 114, 44, 97]⟩ : ByteArray), (⟨#[108, 100, 32, 97, 44, 105]⟩ : ByteArray), (⟨#[108, 100, 32, 97, 44, 114]⟩ : ByteArray), (⟨#[114, 114, 100]⟩ : ByteArray), (⟨#[114, 108, 100]⟩ : ByteArray), (⟨#[110, 111, 112, 42]⟩ : ByteArray), (⟨#[110, 111, 112, 42]⟩ : ByteArray)] : List ByteArray) p2)) none)))))))))) (fun j11 => cond (p1 == 2) (cond (decide (p3 < 4)) (j11 (decide (p2 > 3))) (j11 false)) (j11 false))
theorem charabancref09_ed_69_ok (K : Nat) (M0 : Nat → Prop) (w0 : World) (a0 : Int) (a1 : Int) (a2 : Int) (a3 : Int) (a4 : Int) (a5 : Int) (p1 : Int) (p2 : Int) (p3 : Int) (p4 : Int) (p5 : Int) (ho : ∀ b, M0 b → b < w0.heap.size) {r : ByteArray} (h : charabancref09_ed_69.f K a0 a1 a2 a3 a4 a5 p1 p2 p3 p4 p5 = some r) :
  Calls Tryz.prog 69 #[.agg #[iA a0, iB a1, iB a2, iC a3, iA a4, iA a5], iA p1, iA p2, iA p3, iA p4, iA p5] w0 (charabancref09_ed_69.post M0 w0 r) := by
 unfold charabancref09_ed_69.f at h
 have h0 : Holds M0 w0 w0 [] := Holds.start ho
 refine calls_of F69 rfl [.agg #[iA a0, iB a1, iB a2, iC a3, iA a4, iA a5], iA p1, iA p2, iA p3, iA p4, iA p5] (by kernel_rfl) (Xg 1 [.c 1, .c 2] (Xr (Yx 6 25 [iA a0, iB a1, iB a2, iC a3, iA a4, iA a5] h0 ?_)))
 intro w1 b2 h3 hb4 hn5
 refine Yp 1 [(1, iA p1), (2, iA p2), (3, iA p3), (4, iA p4), (5, iA p5), (6, pt b2)] (Zy 2 4 [.c 5, .c 18] 3 [1, 2, 3, 4, 5, 6, 18] [(18, tB (p1 == 2))] ?_)
 obtain ⟨j11, hJ12, h⟩ := of_let h
 have hj13 : ∀ (t8 : Bool) (w10 : World), j11 t8 = some r → Holds M0 w0 w10 [box b2 25 [iA a0, iB a1, iB a2, iC a3, iA a4, iA a5]] → RegI F69 4 [.c 5, .c 18] 10 [(1, iA p1), (2, iA p2), (3, iA p3), (4, iA p4), (5, iA p5), (6, pt b2), (25, tB t8)] w10 (charabancref09_ed_69.post M0 w0 r) := by
  intro t8 w10 h h9
  rw [hJ12] at h
  clear hJ12
  dsimp only at h
  refine Ye (Vc 25 6 17 h (fun hc14 h => ?_) fun hc14 h => ?_)
  ·refine Xg 1 [.c 7, .c 8, .c 18] (Xr (Yo (OpE.lit 26 9 [tS sg5, tS sg6, tS sg7, tS sg8] 4 h9 (by kernel_rfl) (by kernel_rfl) ?_)))
   intro w15 b16 h17 hb18 hn19
   refine Yp 1 [(2, iA p2), (3, iA p3), (26, .slice (some ⟨b16, 0, none⟩) (([sg5, sg6, sg7, sg8] : List ByteArray).length) 4), (27, iA p3)] ?_
   have h20 := h17.boxOwn 1 rfl Rp.str ([sg5, sg6, sg7, sg8] : List ByteArray) (cells_str _ _ _) (Nat.le_of_ble_eq_true (by kernel_rfl))
   have ⟨hc21, h⟩ := oz h
   refine Yo (OpE.idxOwnA 28 1 34 9 p3 h20 (by kernel_rfl) rfl (by kernel_rfl) (by kernel_rfl) hc21 (Yo (OpE.loadOwnA 29 1 9 9 p3 0 (o := (Int.toNat p3) * 1 + 0) h20 (by kernel_rfl) rfl (by kernel_rfl) (by kernel_rfl) hc21 (fun cs22 hk23 => ?_))))
   obtain rfl := hk23
   refine ⟨tS (rdD ([sg5, sg6, sg7, sg8] : List ByteArray) p3), by kernel_rfl, ?_⟩
   refine Zp 1 [2, 3, 13] [(13, tS (rdD ([sg5, sg6, sg7, sg8] : List ByteArray) p3))] (Zy 2 10 [.c 11, .c 14, .c 18] 3 [2, 13, 32] [(32, tB (p3 == 3))] ?_)
   obtain ⟨j28, hJ29, h⟩ := of_let h
   have hj30 : ∀ (t25 : Bool) (w27 : World), j28 t25 = some r → Holds M0 w0 w27 [] → RegI F69 10 [.c 11, .c 14, .c 18] 6 [(2, iA p2), (13, tS (rdD ([sg5, sg6, sg7, sg8] : List ByteArray) p3)), (35, tB t25)] w27 (charabancref09_ed_69.post M0 w0 r) := by
    intro t25 w27 h h26
    rw [hJ29] at h
    clear hJ29
    dsimp only at h
    refine Ye (Vc 35 12 13 h (fun hc31 h => ?_) fun hc31 h => ?_)
    ·refine Xr (Yp 1 [(2, iA p2), (13, tS sg39)] (Zy 1 15 [.c 16, .c 18] 1 [2, 36] [(36, tS sg39)] (Yo (OpE.lit 37 9 [tS sg10, tS sg11, tS sg12, tS sg13] 4 h26 (by kernel_rfl) (by kernel_rfl) ?_))))
     intro w32 b33 h34 hb35 hn36
     refine Zp 2 [36, 37, 39] [(37, .slice (some ⟨b33, 0, none⟩) (([sg10, sg11, sg12, sg13] : List ByteArray).length) 4), (39, iA (wA (p2 - 4)))] ?_
     have h37 := h34.boxOwn 0 rfl Rp.str ([sg10, sg11, sg12, sg13] : List ByteArray) (cells_str _ _ _) (Nat.le_of_ble_eq_true (by kernel_rfl))
     have ⟨hc38, h⟩ := oz h
     refine Yo (OpE.idxOwnA 40 0 34 9 (wA (p2 - 4)) h37 (by kernel_rfl) rfl (by kernel_rfl) (by kernel_rfl) hc38 (Yo (OpE.loadOwnA 41 0 9 9 (wA (p2 - 4)) 0 (o := (Int.toNat (wA (p2 - 4))) * 1 + 0) h37 (by kernel_rfl) rfl (by kernel_rfl) (by kernel_rfl) hc38 (fun cs39 hk40 => ?_))))
     obtain rfl := hk40
     refine ⟨tS (rdD ([sg10, sg11, sg12, sg13] : List ByteArray) (wA (p2 - 4))), by kernel_rfl, ?_⟩
     have ⟨hc41, h⟩ := oz h
     refine Yt 42 sg39 (rdD ([sg10, sg11, sg12, sg13] : List ByteArray) (wA (p2 - 4))) hc41 (Yd 1 [(12, tS (sg39 ++ (rdD ([sg10, sg11, sg12, sg13] : List ByteArray) (wA (p2 - 4)))))] ?_)
     obtain rfl := sI h
     exact Xt (tS (sg39 ++ (rdD ([sg10, sg11, sg12, sg13] : List ByteArray) (wA (p2 - 4))))) ⟨rfl, h37.below⟩
    ·refine Xg 1 [.c 14, .c 18] (Xq 1 15 [.c 16, .c 18] 1 [(2, iA p2), (36, tS (rdD ([sg5, sg6, sg7, sg8] : List ByteArray) p3))] (Yo (OpE.lit 37 9 [tS sg10, tS sg11, tS sg12, tS sg13] 4 h26 (by kernel_rfl) (by kernel_rfl) ?_)))
     intro w42 b43 h44 hb45 hn46
     refine Zp 2 [36, 37, 39] [(37, .slice (some ⟨b43, 0, none⟩) (([sg10, sg11, sg12, sg13] : List ByteArray).length) 4), (39, iA (wA (p2 - 4)))] ?_
     have h47 := h44.boxOwn 0 rfl Rp.str ([sg10, sg11, sg12, sg13] : List ByteArray) (cells_str _ _ _) (Nat.le_of_ble_eq_true (by kernel_rfl))
     have ⟨hc48, h⟩ := oz h
     refine Yo (OpE.idxOwnA 40 0 34 9 (wA (p2 - 4)) h47 (by kernel_rfl) rfl (by kernel_rfl) (by kernel_rfl) hc48 (Yo (OpE.loadOwnA 41 0 9 9 (wA (p2 - 4)) 0 (o := (Int.toNat (wA (p2 - 4))) * 1 + 0) h47 (by kernel_rfl) rfl (by kernel_rfl) (by kernel_rfl) hc48 (fun cs49 hk50 => ?_))))
     obtain rfl := hk50
     refine ⟨tS (rdD ([sg10, sg11, sg12, sg13] : List ByteArray) (wA (p2 - 4))), by kernel_rfl, ?_⟩
     have ⟨hc51, h⟩ := oz h
     refine Yt 42 (rdD ([sg5, sg6, sg7, sg8] : List ByteArray) p3) (rdD ([sg10, sg11, sg12, sg13] : List ByteArray) (wA (p2 - 4))) hc51 (Yd 1 [(12, tS ((rdD ([sg5, sg6, sg7, sg8] : List ByteArray) p3) ++ (rdD ([sg10, sg11, sg12, sg13] : List ByteArray) (wA (p2 - 4)))))] ?_)
     obtain rfl := sI h
     exact Xt (tS ((rdD ([sg5, sg6, sg7, sg8] : List ByteArray) p3) ++ (rdD ([sg10, sg11, sg12, sg13] : List ByteArray) (wA (p2 - 4))))) ⟨rfl, h47.below⟩
   clear hJ29
   rcases oc h with ⟨hc24, h⟩ | ⟨hc24, h⟩
   ·refine Yf 32 true hc24 (Zp 3 [2, 13, 35] [(35, tB (decide (p2 < 6)))] (Ul [(2, iA p2), (13, tS (rdD ([sg5, sg6, sg7, sg8] : List ByteArray) p3)), (35, tB (decide (p2 < 6)))] ?_))
    exact hj30 (decide (p2 < 6)) w15 h (h20.pk [])
   ·refine Yf 32 false hc24 (Zp 3 [2, 13, 35] [(35, tB false)] (Ul [(2, iA p2), (13, tS (rdD ([sg5, sg6, sg7, sg8] : List ByteArray) p3)), (35, tB false)] ?_))
    exact hj30 false w15 h (h20.pk [])
  ·refine Xg 1 [.c 18] (Xd 2 20 [.c 21, .c 26] 2 [(2, iA p2), (3, iA p3), (4, iA p4), (5, iA p5), (6, pt b2), (44, tB (p1 != 1))] (Vc 44 22 25 h (fun hc52 h => ?_) fun hc52 h => ?_))
   ·refine Xd 1 23 [.c 24, .c 26] 1 [(12, tS sg14)] ?_
    obtain rfl := sI h
    exact Xt (tS sg14) ⟨rfl, h9.below⟩
   ·refine Xg 1 [.c 26] (Xq 1 27 [.c 28] 2 [(2, iA p2), (3, iA p3), (4, iA p4), (5, iA p5), (6, pt b2), (45, .agg #[iA 0, iB 0, iB 0, iC 0, iA 0, iA 0]), (46, iA p2)] ?_)
    obtain ⟨t57, hg56, h⟩ := of_bind h
    refine Yc 47 71 #[.agg #[iA 0, iB 0, iB 0, iC 0, iA 0, iA 0], iA p2] ((charabancref09_reg_71_ok K _ w10  0 0 0 0 0 0 p2 h9.old' hg56).mono ?_)
    rintro _ w53 ⟨rfl, hb54⟩
    refine ⟨_, rfl, ?_⟩
    have h55 := h9.call hb54
    refine Zp 1 [2, 3, 4, 5, 6, 14] [(14, tS t57)] (Zy 1 29 [.c 30] 2 [2, 3, 5, 6, 14, 48, 49] [(48, .agg #[iA 0, iB 0, iB 0, iC 0, iA 0, iA 0]), (49, iA p4)] ?_)
    obtain ⟨t62, hg61, h⟩ := of_bind h
    refine Yc 50 108 #[.agg #[iA 0, iB 0, iB 0, iC 0, iA 0, iA 0], iA p4, tS sg25] ((charabancref09_pair_108_ok K _ w53  0 0 0 0 0 0 p4 sg25 h55.old' hg61).mono ?_)
    rintro _ w58 ⟨rfl, hb59⟩
    refine ⟨_, rfl, ?_⟩
    have h60 := h55.call hb59
    refine Zp 1 [2, 3, 5, 6, 14, 15] [(15, tS t62)] (Zy 2 32 [.c 33, .c 105] 1 [2, 5, 6, 14, 15, 51] [(51, iA p3)] (Zy 2 35 [.c 36, .blk 0, .c 105] 2 [2, 5, 6, 14, 15, 51, 52] [(52, tB (p3 == 0))] (Ye (Vc 52 37 46 h (fun hc63 h => ?_) fun hc63 h => ?_))))
    ·refine Xd 2 39 [.c 40, .c 43, .blk 0, .c 105] 2 [(14, tS t57), (55, tB (p2 == 6))] (Vc 55 41 42 h (fun hc64 h => ?_) fun hc64 h => ?_)
     ·refine Xr (Yp 1 [(14, tS sg40)] (Yq 1 44 [.c 45, .blk 0, .c 105] 1 [(56, tS sg40)] ?_))
      have ⟨hc65, h⟩ := oz h
      refine Yt 57 sg26 sg40 hc65 ?_
      have ⟨hc66, h⟩ := oz h
      refine Yt 58 (sg26 ++ sg40) sg41 hc66 (Yd 1 [(12, tS ((sg26 ++ sg40) ++ sg41))] ?_)
      obtain rfl := sI h
      exact Xt (tS ((sg26 ++ sg40) ++ sg41)) ⟨rfl, h60.below⟩
     ·refine Xg 1 [.c 43, .blk 0, .c 105] (Xq 1 44 [.c 45, .blk 0, .c 105] 1 [(56, tS t57)] ?_)
      have ⟨hc67, h⟩ := oz h
      refine Yt 57 sg26 t57 hc67 ?_
      have ⟨hc68, h⟩ := oz h
      refine Yt 58 (sg26 ++ t57) sg41 hc68 (Yd 1 [(12, tS ((sg26 ++ t57) ++ sg41))] ?_)
      obtain rfl := sI h
      exact Xt (tS ((sg26 ++ t57) ++ sg41)) ⟨rfl, h60.below⟩
    ·refine Xd 1 47 [.c 48, .blk 0, .c 105] 2 [(2, iA p2), (5, iA p5), (6, pt b2), (14, tS t57), (15, tS t62), (51, iA p3), (59, tB (p3 == 1))] (Vc 59 49 58 h (fun hc69 h => ?_) fun hc69 h => ?_)
     ·refine Xd 2 51 [.c 52, .c 55, .blk 0, .c 105] 2 [(14, tS t57), (62, tB (p2 == 6))] (Vc 62 53 54 h (fun hc70 h => ?_) fun hc70 h => ?_)
      ·refine Xr (Yp 1 [(14, tS sg4)] (Yq 1 56 [.c 57, .blk 0, .c 105] 1 [(63, tS sg4)] ?_))
       have ⟨hc71, h⟩ := oz h
       refine Yt 64 sg42 sg4 hc71 (Yd 1 [(12, tS (sg42 ++ sg4))] ?_)
       obtain rfl := sI h
       exact Xt (tS (sg42 ++ sg4)) ⟨rfl, h60.below⟩
      ·refine Xg 1 [.c 55, .blk 0, .c 105] (Xq 1 56 [.c 57, .blk 0, .c 105] 1 [(63, tS t57)] ?_)
       have ⟨hc72, h⟩ := oz h
       refine Yt 64 sg42 t57 hc72 (Yd 1 [(12, tS (sg42 ++ t57))] ?_)
       obtain rfl := sI h
       exact Xt (tS (sg42 ++ t57)) ⟨rfl, h60.below⟩
     ·refine Xd 1 59 [.c 60, .blk 0, .c 105] 2 [(2, iA p2), (5, iA p5), (6, pt b2), (15, tS t62), (51, iA p3), (65, tB (p3 == 2))] (Vc 65 61 64 h (fun hc73 h => ?_) fun hc73 h => ?_)
      ·refine Xg 1 [.c 62, .c 63, .blk 0, .c 105] (Xr (Yo (OpE.lit 67 9 [tS sg27, tS sg28] 2 h60 (by kernel_rfl) (by kernel_rfl) ?_)))
       intro w74 b75 h76 hb77 hn78
       refine Yp 1 [(15, tS t62), (67, .slice (some ⟨b75, 0, none⟩) (([sg27, sg28] : List ByteArray).length) 2), (68, iA p5)] ?_
       have h79 := h76.boxOwn 1 rfl Rp.str ([sg27, sg28] : List ByteArray) (cells_str _ _ _) (Nat.le_of_ble_eq_true (by kernel_rfl))
       have ⟨hc80, h⟩ := oz h
       refine Yo (OpE.idxOwnA 69 1 34 9 p5 h79 (by kernel_rfl) rfl (by kernel_rfl) (by kernel_rfl) hc80 (Yo (OpE.loadOwnA 70 1 9 9 p5 0 (o := (Int.toNat p5) * 1 + 0) h79 (by kernel_rfl) rfl (by kernel_rfl) (by kernel_rfl) hc80 (fun cs81 hk82 => ?_))))
       obtain rfl := hk82
       refine ⟨tS (rdD ([sg27, sg28] : List ByteArray) p5), by kernel_rfl, ?_⟩
       refine Yp 1 [(70, tS (rdD ([sg27, sg28] : List ByteArray) p5)), (71, tS t62)] ?_
       have ⟨hc83, h⟩ := oz h
       refine Yt 72 (rdD ([sg27, sg28] : List ByteArray) p5) t62 hc83 (Yd 1 [(12, tS ((rdD ([sg27, sg28] : List ByteArray) p5) ++ t62))] ?_)
       obtain rfl := sI h
       exact Xt (tS ((rdD ([sg27, sg28] : List ByteArray) p5) ++ t62)) ⟨rfl, h79.below⟩
      ·refine Xd 1 65 [.c 66, .blk 0, .c 105] 2 [(2, iA p2), (5, iA p5), (6, pt b2), (15, tS t62), (51, iA p3), (73, tB (p3 == 3))] (Vc 73 67 78 h (fun hc84 h => ?_) fun hc84 h => ?_)
       ·refine Xd 2 69 [.c 70, .c 75, .blk 0, .c 105] 2 [(6, pt b2), (15, tS t62), (76, tB (p5 == 0))] (Vc 76 71 74 h (fun hc85 h => ?_) fun hc85 h => ?_)
        ·refine Xg 1 [.c 72, .c 73, .c 75, .blk 0, .c 105] (Xr (Ya 77 0 25 b2 0 (.agg #[iA a0, iB a1, iB a2, iC a3, iA a4, iA a5]) h60 rfl ?_))
         obtain ⟨t90, hg89, h⟩ := of_bind h
         refine Yc 78 109 #[.agg #[iA a0, iB a1, iB a2, iC a3, iA a4, iA a5]] ((charabancref09_nn_109_ok K _ w58  a0 a1 a2 a3 a4 a5 h60.old' hg89).mono ?_)
         rintro _ w86 ⟨rfl, hb87⟩
         refine ⟨_, rfl, ?_⟩
         have h88 := h60.call hb87
         have ⟨hc91, h⟩ := oz h
         refine Yt 79 sg43 t90 hc91 ?_
         have ⟨hc92, h⟩ := oz h
         refine Yt 80 (sg43 ++ t90) sg68 hc92 (Yp 1 [(80, tS ((sg43 ++ t90) ++ sg68)), (81, tS t62)] ?_)
         have ⟨hc93, h⟩ := oz h
         refine Yt 82 ((sg43 ++ t90) ++ sg68) t62 hc93 (Yd 1 [(12, tS (((sg43 ++ t90) ++ sg68) ++ t62))] ?_)
         obtain rfl := sI h
         exact Xt (tS (((sg43 ++ t90) ++ sg68) ++ t62)) ⟨rfl, h88.below⟩
        ·refine Xg 1 [.c 75, .blk 0, .c 105] (Xq 1 76 [.c 77, .blk 0, .c 105] 1 [(6, pt b2), (83, tS t62)] ?_)
         have ⟨hc94, h⟩ := oz h
         refine Yt 84 sg1 t62 hc94 ?_
         have ⟨hc95, h⟩ := oz h
         refine Yt 85 (sg1 ++ t62) sg69 hc95 (Ya 86 0 25 b2 0 (.agg #[iA a0, iB a1, iB a2, iC a3, iA a4, iA a5]) h60 rfl ?_)
         obtain ⟨t100, hg99, h⟩ := of_bind h
         refine Yc 87 109 #[.agg #[iA a0, iB a1, iB a2, iC a3, iA a4, iA a5]] ((charabancref09_nn_109_ok K _ w58  a0 a1 a2 a3 a4 a5 h60.old' hg99).mono ?_)
         rintro _ w96 ⟨rfl, hb97⟩
         refine ⟨_, rfl, ?_⟩
         have h98 := h60.call hb97
         have ⟨hc101, h⟩ := oz h
         refine Yt 88 ((sg1 ++ t62) ++ sg69) t100 hc101 ?_
         have ⟨hc102, h⟩ := oz h
         refine Yt 89 (((sg1 ++ t62) ++ sg69) ++ t100) sg0 hc102 (Yd 1 [(12, tS ((((sg1 ++ t62) ++ sg69) ++ t100) ++ sg0))] ?_)
         obtain rfl := sI h
         exact Xt (tS ((((sg1 ++ t62) ++ sg69) ++ t100) ++ sg0)) ⟨rfl, h98.below⟩
       ·refine Xd 1 79 [.c 80, .blk 0, .c 105] 2 [(2, iA p2), (51, iA p3), (90, tB (p3 == 4))] (Vc 90 81 84 h (fun hc103 h => ?_) fun hc103 h => ?_)
        ·refine Xd 1 82 [.c 83, .blk 0, .c 105] 1 [(12, tS (⟨#[110, 101, 103]⟩ : ByteArray))] ?_
         obtain rfl := sI h
         exact Xt (tS (⟨#[110, 101, 103]⟩ : ByteArray)) ⟨rfl, h60.below⟩
        ·refine Xd 1 85 [.c 86, .blk 0, .c 105] 2 [(2, iA p2), (51, iA p3), (92, tB (p3 == 5))] (Vc 92 87 98 h (fun hc104 h => ?_) fun hc104 h => ?_)
         ·refine Xd 2 89 [.c 90, .c 95, .blk 0, .c 105] 2 [(95, tB (p2 == 1))] (Vc 95 91 94 h (fun hc105 h => ?_) fun hc105 h => ?_)
          ·refine Xd 1 92 [.c 93, .c 95, .blk 0, .c 105] 1 [(12, tS (⟨#[114, 101, 116, 105]⟩ : ByteArray))] ?_
           obtain rfl := sI h
           exact Xt (tS (⟨#[114, 101, 116, 105]⟩ : ByteArray)) ⟨rfl, h60.below⟩
          ·refine Xg 1 [.c 95, .blk 0, .c 105] (Xd 1 96 [.c 97, .blk 0, .c 105] 1 [(12, tS (⟨#[114, 101, 116, 110]⟩ : ByteArray))] ?_)
           obtain rfl := sI h
           exact Xt (tS (⟨#[114, 101, 116, 110]⟩ : ByteArray)) ⟨rfl, h60.below⟩
         ·refine Xd 1 99 [.c 100, .blk 0, .c 105] 2 [(2, iA p2), (96, tB (p3 == 6))] (Vc 96 101 104 h (fun hc106 h => ?_) fun hc106 h => ?_)
          ·refine Xg 1 [.c 102, .c 103, .blk 0, .c 105] (Xr (Yo (OpE.lit 98 9 [tS sg4, tS sg4, tS sg33, tS sg34] 4 h60 (by kernel_rfl) (by kernel_rfl) ?_)))
           intro w107 b108 h109 hb110 hn111
           refine Yp 2 [(98, .slice (some ⟨b108, 0, none⟩) (([sg4, sg4, sg33, sg34] : List ByteArray).length) 4), (100, iA (Int.tmod p2 4))] ?_
           have h112 := h109.boxOwn 1 rfl Rp.str ([sg4, sg4, sg33, sg34] : List ByteArray) (cells_str _ _ _) (Nat.le_of_ble_eq_true (by kernel_rfl))
           have ⟨hc113, h⟩ := oz h
           refine Yo (OpE.idxOwnA 101 1 34 9 (Int.tmod p2 4) h112 (by kernel_rfl) rfl (by kernel_rfl) (by kernel_rfl) hc113 (Yo (OpE.loadOwnA 102 1 9 9 (Int.tmod p2 4) 0 (o := (Int.toNat (Int.tmod p2 4)) * 1 + 0) h112 (by kernel_rfl) rfl (by kernel_rfl) (by kernel_rfl) hc113 (fun cs114 hk115 => ?_))))
           obtain rfl := hk115
           refine ⟨tS (rdD ([sg4, sg4, sg33, sg34] : List ByteArray) (Int.tmod p2 4)), by kernel_rfl, ?_⟩
           have ⟨hc116, h⟩ := oz h
           refine Yt 103 sg88 (rdD ([sg4, sg4, sg33, sg34] : List ByteArray) (Int.tmod p2 4)) hc116 (Yd 1 [(12, tS (sg88 ++ (rdD ([sg4, sg4, sg33, sg34] : List ByteArray) (Int.tmod p2 4))))] ?_)
           obtain rfl := sI h
           exact Xt (tS (sg88 ++ (rdD ([sg4, sg4, sg33, sg34] : List ByteArray) (Int.tmod p2 4)))) ⟨rfl, h112.below⟩
          ·refine Xg 1 [.blk 0, .c 105] (Xg 2 [.c 106, .c 107] (Xr (Yo (OpE.lit 104 9 [tS sg44, tS sg45, tS sg46, tS sg47, tS sg48, tS sg49, tS sg14, tS sg14] 8 h60 (by kernel_rfl) (by kernel_rfl) ?_))))
           intro w117 b118 h119 hb120 hn121
           refine Yp 1 [(104, .slice (some ⟨b118, 0, none⟩) (([sg44, sg45, sg46, sg47, sg48, sg49, sg14, sg14] : List ByteArray).length) 8), (105, iA p2)] ?_
           have h122 := h119.boxOwn 1 rfl Rp.str ([sg44, sg45, sg46, sg47, sg48, sg49, sg14, sg14] : List ByteArray) (cells_str _ _ _) (Nat.le_of_ble_eq_true (by kernel_rfl))
           have ⟨hc123, h⟩ := oz h
           refine Yo (OpE.idxOwnA 106 1 34 9 p2 h122 (by kernel_rfl) rfl (by kernel_rfl) (by kernel_rfl) hc123 (Yo (OpE.loadOwnA 107 1 9 9 p2 0 (o := (Int.toNat p2) * 1 + 0) h122 (by kernel_rfl) rfl (by kernel_rfl) (by kernel_rfl) hc123 (fun cs124 hk125 => ?_))))
           obtain rfl := hk125
           refine ⟨tS (rdD ([sg44, sg45, sg46, sg47, sg48, sg49, sg14, sg14] : List ByteArray) p2), by kernel_rfl, ?_⟩
           refine Yd 1 [(12, tS (rdD ([sg44, sg45, sg46, sg47, sg48, sg49, sg14, sg14] : List ByteArray) p2))] ?_
           obtain rfl := sI h
           exact Xt (tS (rdD ([sg44, sg45, sg46, sg47, sg48, sg49, sg14, sg14] : List ByteArray) p2)) ⟨rfl, h122.below⟩
 clear hJ12
 rcases oc h with ⟨hc6, h⟩ | ⟨hc6, h⟩
 ·refine Yf 18 true hc6 (Zp 4 [1, 2, 3, 4, 5, 6, 22] [(22, tB (decide (p3 < 4)))] ?_)
  rcases oc h with ⟨hc7, h⟩ | ⟨hc7, h⟩
  ·refine Yf 22 true hc7 (Zp 3 [1, 2, 3, 4, 5, 6, 25] [(25, tB (decide (p2 > 3)))] (Ul [(1, iA p1), (2, iA p2), (3, iA p3), (4, iA p4), (5, iA p5), (6, pt b2), (25, tB (decide (p2 > 3)))] ?_))
   exact hj13 (decide (p2 > 3)) w1 h (h3.pk [0])
  ·refine Yf 22 false hc7 (Zp 3 [1, 2, 3, 4, 5, 6, 25] [(25, tB false)] (Ul [(1, iA p1), (2, iA p2), (3, iA p3), (4, iA p4), (5, iA p5), (6, pt b2), (25, tB false)] ?_))
   exact hj13 false w1 h (h3.pk [0])
 ·refine Yf 18 false hc6 (Zp 7 [1, 2, 3, 4, 5, 6, 25] [(25, tB false)] (Ul [(1, iA p1), (2, iA p2), (3, iA p3), (4, iA p4), (5, iA p5), (6, pt b2), (25, tB false)] ?_))
  exact hj13 false w1 h (h3.pk [0])
end

section
abbrev charabancref09_to_110.post := pS
def charabancref09_to_110.f (K : Nat) (p0_0 : Int) (p0_1 : Int) (p0_2 : Int) (p0_3 : Int) (p0_4 : Int) (p0_5 : Int) : Option ByteArray := (charabancref01_Signed_28.f K (IntKind.wrap .u8 (Int.tmod p0_3 256))).bind fun t10 => (charabancref09_sign_156.f K (IntKind.wrap .i64 (t10 + 2))).bind fun t15 => cond (mayCat (⟨#[36]⟩ : ByteArray).size t15.size) (some ((⟨#[36]⟩ : ByteArray) ++ t15)) none
theorem charabancref09_to_110_ok (K : Nat) (M0 : Nat → Prop) (w0 : World) (a0 : Int) (a1 : Int) (a2 : Int) (a3 : Int) (a4 : Int) (a5 : Int) (ho : ∀ b, M0 b → b < w0.heap.size) {r : ByteArray} (h : charabancref09_to_110.f K a0 a1 a2 a3 a4 a5 = some r) :
  Calls Tryz.prog 110 #[.agg #[iA a0, iB a1, iB a2, iC a3, iA a4, iA a5]] w0 (charabancref09_to_110.post M0 w0 r) := by
 unfold charabancref09_to_110.f at h
 have h0 : Holds M0 w0 w0 [] := Holds.start ho
 refine calls_of F110 rfl [.agg #[iA a0, iB a1, iB a2, iC a3, iA a4, iA a5]] (by kernel_rfl) (Xg 1 [.c 1, .c 2] (Xr (Yx 1 25 [iA a0, iB a1, iB a2, iC a3, iA a4, iA a5] h0 ?_)))
 intro w1 b2 h3 hb4 hn5
 refine Yp 1 [(1, pt b2)] (Yq 1 3 [.c 4] 1 [(3, pu b2 3)] (Ya 4 0 23 b2 3 (iC a3) h3 rfl (Yp 2 [(6, iB (wB (Int.tmod a3 256)))] ?_)))
 obtain ⟨t10, hg9, h⟩ := of_bind h
 refine Yc 7 28 #[iB (wB (Int.tmod a3 256))] ((charabancref01_Signed_28_ok K _ w1  (wB (Int.tmod a3 256)) h3.old' hg9).mono ?_)
 rintro _ w6 ⟨rfl, hb7⟩
 refine ⟨_, rfl, ?_⟩
 have h8 := h3.call hb7
 refine Yp 1 [(8, iA (wA (t10 + 2)))] ?_
 obtain ⟨t15, hg14, h⟩ := of_bind h
 refine Yc 9 156 #[iA (wA (t10 + 2))] ((charabancref09_sign_156_ok K _ w6  (wA (t10 + 2)) h8.old' hg14).mono ?_)
 rintro _ w11 ⟨rfl, hb12⟩
 refine ⟨_, rfl, ?_⟩
 have h13 := h8.call hb12
 have ⟨hc16, h⟩ := oz h
 refine Yt 10 (⟨#[36]⟩ : ByteArray) t15 hc16 (Yd 1 [(2, tS ((⟨#[36]⟩ : ByteArray) ++ t15))] ?_)
 obtain rfl := sI h
 exact Xt (tS ((⟨#[36]⟩ : ByteArray) ++ t15)) ⟨rfl, h13.below⟩
end

section
def charabancref09_conds_111.post (M0 : Nat → Prop) (w0 : World) (r : (List ByteArray)) : Ending → World → Prop := fun e w => ∃ (A1 : Option Addr) (c1 : Nat), e = .returned (.slice A1 r.length c1) ∧ Holds M0 w0 w [own Rp.str 9 (.slice A1 r.length c1) r]
def charabancref09_conds_111.f (K : Nat) : Option (List ByteArray) := some ([(⟨#[110, 122]⟩ : ByteArray), (⟨#[122]⟩ : ByteArray), (⟨#[110, 99]⟩ : ByteArray), (⟨#[99]⟩ : ByteArray), (⟨#[112, 111]⟩ : ByteArray), (⟨#[112, 101]⟩ : ByteArray), (⟨#[112]⟩ : ByteArray), (⟨#[109]⟩ : ByteArray)] : List ByteArray)
theorem charabancref09_conds_111_ok (K : Nat) (M0 : Nat → Prop) (w0 : World) (ho : ∀ b, M0 b → b < w0.heap.size) {r : (List ByteArray)} (h : charabancref09_conds_111.f K = some r) :
  Calls Tryz.prog 111 #[] w0 (charabancref09_conds_111.post M0 w0 r) := by
 unfold charabancref09_conds_111.f at h
 have h0 : Holds M0 w0 w0 [] := Holds.start ho
 refine calls_of F111 rfl [] (by kernel_rfl) (Xd 1 1 [.c 2] 1 [] (Xg 1 [.c 3, .c 4] (Xr (Yo (OpE.lit 1 9 [tS sg70, tS sg71, tS sg72, tS sg73, tS sg74, tS sg75, tS sg76, tS sg77] 8 h0 (by kernel_rfl) (by kernel_rfl) ?_)))))
 intro w1 b2 h3 hb4 hn5
 refine Yd 1 [(0, .slice (some ⟨b2, 0, none⟩) (([sg70, sg71, sg72, sg73, sg74, sg75, sg76, sg77] : List ByteArray).length) 8)] (Xt (.slice (some ⟨b2, 0, none⟩) (([sg70, sg71, sg72, sg73, sg74, sg75, sg76, sg77] : List ByteArray).length) 8) ?_)
 have h6 := h3.boxOwn 0 rfl Rp.str ([sg70, sg71, sg72, sg73, sg74, sg75, sg76, sg77] : List ByteArray) (cells_str _ _ _) (Nat.le_of_ble_eq_true (by kernel_rfl))
 obtain rfl := sI h
 exact ⟨(some ⟨b2, 0, none⟩), 8, rfl, h6.pk [0]⟩
end

section
abbrev charabancref09_n_112.post := pS
def charabancref09_n_112.f (K : Nat) (p0_0 : Int) (p0_1 : Int) (p0_2 : Int) (p0_3 : Int) (p0_4 : Int) (p0_5 : Int) : Option ByteArray := (charabancref09_Hex_43.f K (IntKind.wrap .i64 (Int.tmod p0_3 256)) 2).bind fun t10 => some t10
theorem charabancref09_n_112_ok (K : Nat) (M0 : Nat → Prop) (w0 : World) (a0 : Int) (a1 : Int) (a2 : Int) (a3 : Int) (a4 : Int) (a5 : Int) (ho : ∀ b, M0 b → b < w0.heap.size) {r : ByteArray} (h : charabancref09_n_112.f K a0 a1 a2 a3 a4 a5 = some r) :
  Calls Tryz.prog 112 #[.agg #[iA a0, iB a1, iB a2, iC a3, iA a4, iA a5]] w0 (charabancref09_n_112.post M0 w0 r) := by
 unfold charabancref09_n_112.f at h
 have h0 : Holds M0 w0 w0 [] := Holds.start ho
 refine calls_of F112 rfl [.agg #[iA a0, iB a1, iB a2, iC a3, iA a4, iA a5]] (by kernel_rfl) (Xg 1 [.c 1, .c 2] (Xr (Yx 1 25 [iA a0, iB a1, iB a2, iC a3, iA a4, iA a5] h0 ?_)))
 intro w1 b2 h3 hb4 hn5
 refine Yp 1 [(1, pt b2)] (Yq 1 3 [.c 4] 1 [(3, pu b2 3)] (Ya 4 0 23 b2 3 (iC a3) h3 rfl (Yp 2 [(6, iA (wA (Int.tmod a3 256)))] ?_)))
 obtain ⟨t10, hg9, h⟩ := of_bind h
 refine Yc 7 43 #[iA (wA (Int.tmod a3 256)), iA 2] ((charabancref09_Hex_43_ok K _ w1  (wA (Int.tmod a3 256)) 2 h3.old' hg9).mono ?_)
 rintro _ w6 ⟨rfl, hb7⟩
 refine ⟨_, rfl, ?_⟩
 have h8 := h3.call hb7
 refine Yd 1 [(2, tS t10)] ?_
 obtain rfl := sI h
 exact Xt (tS t10) ⟨rfl, h8.below⟩
end

section
abbrev charabancref09_zero_70.post := pS
def charabancref09_zero_70.f (K : Nat) (p0_0 : Int) (p0_1 : Int) (p0_2 : Int) (p0_3 : Int) (p0_4 : Int) (p0_5 : Int) (p1 : Int) (p2 : Int) (p3 : Int) (p4 : Int) : Option ByteArray := (charabancref09_pair_108.f K p0_0 p0_1 p0_2 p0_3 p0_4 p0_5 2 (⟨#[115, 112]⟩ : ByteArray)).bind fun t10 => (charabancref09_pair_108.f K p0_0 p0_1 p0_2 p0_3 p0_4 p0_5 p3 (⟨#[115, 112]⟩ : ByteArray)).bind fun t15 => cond (p2 == 0) ((charabancref09_to_110.f K p0_0 p0_1 p0_2 p0_3 p0_4 p0_5).bind fun t22 => cond (mayCat (⟨#[100, 106, 110, 122, 32]⟩ : ByteArray).size t22.size) ((charabancref09_to_110.f K p0_0 p0_1 p0_2 p0_3 p0_4 p0_5).bind fun t25 => cond (mayCat (⟨#[106, 114, 32]⟩ : ByteArray).size t25.size) (cond (decide (p1 < 4)) (cond (inR p1 ([(⟨#[110, 111, 112]⟩ : ByteArray), (⟨#[101, 120, 32, 97, 102, 44, 97, 102, 39]⟩ : ByteArray), ((⟨#[100, 106, 110, 122, 32]⟩ : ByteArray) ++ t22), ((⟨#[106, 114, 32]⟩ : ByteArray) ++ t25)] : List ByteArray).length) (some (rdD ([(⟨#[110, 111, 112]⟩ : ByteArray), (⟨#[101, 120, 32, 97, 102, 44, 97, 102, 39]⟩ : ByteArray), ((⟨#[100, 106, 110, 122, 32]⟩ : ByteArray) ++ t22), ((⟨#[106, 114, 32]⟩ : ByteArray) ++ t25)] : List ByteArray) p1)) none) ((charabancref09_conds_111.f K).bind fun t58 => (charabancref09_to_110.f K p0_0 p0_1 p0_2 p0_3 p0_4 p0_5).bind fun t65 => cond (inR (IntKind.wrap .i64 (p1 - 4)) t58.length) (cond (mayCat (⟨#[106, 114, 32]⟩ : ByteArray).size (rdD t58 (IntKind.wrap .i64 (p1 - 4))).size) (cond (mayCat ((⟨#[106, 114, 32]⟩ : ByteArray) ++ (rdD t58 (IntKind.wrap .i64 (p1 - 4)))).size (⟨#[44]⟩ : ByteArray).size) (cond (mayCat (((⟨#[106, 114, 32]⟩ : ByteArray) ++ (rdD t58 (IntKind.wrap .i64 (p1 - 4)))) ++ (⟨#[44]⟩ : ByteArray)).size t65.size) (some ((((⟨#[106, 114, 32]⟩ : ByteArray) ++ (rdD t58 (IntKind.wrap .i64 (p1 - 4)))) ++ (⟨#[44]⟩ : ByteArray)) ++ t65)) none) none) none) none)) none) none) (cond (p2 == 1) (cond (p4 == 0) (cond (mayCat (⟨#[108, 100, 32]⟩ : ByteArray).size t15.size) (cond (mayCat ((⟨#[108, 100, 32]⟩ : ByteArray) ++ t15).size (⟨#[44]⟩ : ByteArray).size) ((charabancref09_nn_109.f K p0_0 p0_1 p0_2 p0_3 p0_4 p0_5).bind fun t93 => cond (mayCat (((⟨#[108, 100, 32]⟩ : ByteArray) ++ t15) ++ (⟨#[44]⟩ : ByteArray)).size t93.size) (some ((((⟨#[108, 100, 32]⟩ : ByteArray) ++ t15) ++ (⟨#[44]⟩ : ByteArray)) ++ t93)) none) none) none) (cond (mayCat (⟨#[97, 100, 100, 32]⟩ : ByteArray).size t10.size) (cond (mayCat ((⟨#[97, 100, 100, 32]⟩ : ByteArray) ++ t10).size (⟨#[44]⟩ : ByteArray).size) (cond (mayCat (((⟨#[97, 100, 100, 32]⟩ : ByteArray) ++ t10) ++ (⟨#[44]⟩ : ByteArray)).size t15.size) (some ((((⟨#[97, 100, 100, 32]⟩ : ByteArray) ++ t10) ++ (⟨#[44]⟩ : ByteArray)) ++ t15)) none) none) none)) (cond (p2 == 2) ((charabancref09_nn_109.f K p0_0 p0_1 p0_2 p0_3 p0_4 p0_5).bind fun t103 => cond (mayCat (⟨#[40]⟩ : ByteArray).size t103.size) (cond (mayCat ((⟨#[40]⟩ : ByteArray) ++ t103).size (⟨#[41]⟩ : ByteArray).size) (cond (mayCat (⟨#[108, 100, 32]⟩ : ByteArray).size (((⟨#[40]⟩ : ByteArray) ++ t103) ++ (⟨#[41]⟩ : ByteArray)).size) (cond (mayCat ((⟨#[108, 100, 32]⟩ : ByteArray) ++ (((⟨#[40]⟩ : ByteArray) ++ t103) ++ (⟨#[41]⟩ : ByteArray))).size (⟨#[44]⟩ : ByteArray).size) (cond (mayCat (((⟨#[108, 100, 32]⟩ : ByteArray) ++ (((⟨#[40]⟩ : ByteArray) ++ t103) ++ (⟨#[41]⟩ : ByteArray))) ++ (⟨#[44]⟩ : ByteArray)).size t10.size) (cond (mayCat (⟨#[108, 100, 32]⟩ : ByteArray).size t10.size) (cond (mayCat ((⟨#[108, 100, 32]⟩ : ByteArray) ++ t10).size (⟨#[44]⟩ : ByteArray).size) (cond (mayCat (((⟨#[108, 100, 32]⟩ : ByteArray) ++ t10) ++ (⟨#[44]⟩ : ByteArray)).size (((⟨#[40]⟩ : ByteArray) ++ t103) ++ (⟨#[41]⟩ : ByteArray)).size) (cond (mayCat ((⟨#[108, 100, 32]⟩ : ByteArray) ++ (((⟨#[40]⟩ : ByteArray) ++ t103) ++ (⟨#[41]⟩ : ByteArray))).size (⟨#[44, 97]⟩ : ByteArray).size) (cond (mayCat (⟨#[108, 100, 32, 97, 44]⟩ : ByteArray).size (((⟨#[40]⟩ : ByteArray) ++ t103) ++ (⟨#[41]⟩ : ByteArray)).size) (cond (inR p1 ([(⟨#[108, 100, 32, 40, 98, 99, 41, 44, 97]⟩ : ByteArray), (⟨#[108, 100, 32, 97, 44, 40, 98, 99, 41]⟩ : ByteArray), (⟨#[108, 100, 32, 40, 100, 101, 41, 44, 97]⟩ : ByteArray), (⟨#[108, 100, 32, 97, 44, 40, 100, 101, 41]⟩ : ByteArray), ((((⟨#[108, 100, 32]⟩ : ByteArray) ++ (((⟨#[40]⟩ : ByteArray) ++ t103) ++ (⟨#[41]⟩ : ByteArray))) ++ (⟨#[44]⟩ : ByteArray)) ++ t10), ((((⟨#[108, 100, 32]⟩ : ByteArray) ++ t10) ++ (⟨#[44]⟩ : ByteArray)) ++ (((⟨#[40]⟩ : ByteArray) ++ t103) ++ (⟨#[41]⟩ : ByteArray))), (((⟨#[108, 100, 32]⟩ : ByteArray) ++ (((⟨#[40]⟩ : ByteArray) ++ t103) ++ (⟨#[41]⟩ : ByteArray))) ++ (⟨#[44, 97]⟩ : ByteArray)), ((⟨#[108, 100, 32, 97, 44]⟩ : ByteArray) ++ (((⟨#[40]⟩ : ByteArray) ++ t103) ++ (⟨#[41]⟩ : ByteArray)))] : List ByteArray).length) (some (rdD ([(⟨#[108, 100, 32, 40, 98, 99, 41, 44, 97]⟩ : ByteArray), (⟨#[108, 100, 32, 97, 44, 40, 98, 99, 41]⟩ : ByteArray), (⟨#[108, 100, 32, 40, 100, 101, 41, 44, 97]⟩ : ByteArray), (⟨#[108, 100, 32, 97, 44, 40, 100, 101, 41]⟩ : ByteArray), ((((⟨#[108, 100, 32]⟩ : ByteArray) ++ (((⟨#[40]⟩ : ByteArray) ++ t103) ++ (⟨#[41]⟩ : ByteArray))) ++ (⟨#[44]⟩ : ByteArray)) ++ t10), ((((⟨#[108, 100, 32]⟩ : ByteArray) ++ t10) ++ (⟨#[44]⟩ : ByteArray)) ++ (((⟨#[40]⟩ : ByteArray) ++ t103) ++ (⟨#[41]⟩ : ByteArray))), (((⟨#[108, 100, 32]⟩ : ByteArray) ++ (((⟨#[40]⟩ : ByteArray) ++ t103) ++ (⟨#[41]⟩ : ByteArray))) ++ (⟨#[44, 97]⟩ : ByteArray)), ((⟨#[108, 100, 32, 97, 44]⟩ : ByteArray) ++ (((⟨#[40]⟩ : ByteArray) ++ t103) ++ (⟨#[41]⟩ : ByteArray)))] : List ByteArray) p1)) none) none) none) none) none) none) none) none) none) none) none) (cond (p2 == 3) (cond (inR p4 ([(⟨#[105, 110, 99, 32]⟩ : ByteArray), (⟨#[100, 101, 99, 32]⟩ : ByteArray)] : List ByteArray).length) (cond (mayCat (rdD ([(⟨#[105, 110, 99, 32]⟩ : ByteArray), (⟨#[100, 101, 99, 32]⟩ : ByteArray)] : List ByteArray) p4).size t15.size) (some ((rdD ([(⟨#[105, 110, 99, 32]⟩ : ByteArray), (⟨#[100, 101, 99, 32]⟩ : ByteArray)] : List ByteArray) p4) ++ t15)) none) none) (cond (p2 == 4) ((charabancref09_reg_71.f K p0_0 p0_1 p0_2 p0_3 p0_4 p0_5 p1).bind fun t139 => cond (mayCat (⟨#[105, 110, 99, 32]⟩ : ByteArray).size t139.size) (some ((⟨#[105, 110, 99, 32]⟩ : ByteArray) ++ t139)) none) (cond (p2 == 5) ((charabancref09_reg_71.f K p0_0 p0_1 p0_2 p0_3 p0_4 p0_5 p1).bind fun t146 => cond (mayCat (⟨#[100, 101, 99, 32]⟩ : ByteArray).size t146.size) (some ((⟨#[100, 101, 99, 32]⟩ : ByteArray) ++ t146)) none) (cond (p2 == 6) ((charabancref09_reg_71.f K p0_0 p0_1 p0_2 p0_3 p0_4 p0_5 p1).bind fun t154 => cond (mayCat (⟨#[108, 100, 32]⟩ : ByteArray).size t154.size) (cond (mayCat ((⟨#[108, 100, 32]⟩ : ByteArray) ++ t154).size (⟨#[44]⟩ : ByteArray).size) ((charabancref09_n_112.f K p0_0 p0_1 p0_2 p0_3 p0_4 p0_5).bind fun t158 => cond (mayCat (((⟨#[108, 100, 32]⟩ : ByteArray) ++ t154) ++ (⟨#[44]⟩ : ByteArray)).size t158.size) (some ((((⟨#[108, 100, 32]⟩ : ByteArray) ++ t154) ++ (⟨#[44]⟩ : ByteArray)) ++ t158)) none) none) none) (cond (inR p1 ([(⟨#[114, 108, 99, 97]⟩ : ByteArray), (⟨#[114, 114, 99, 97]⟩ : ByteArray), (⟨#[114, 108, 97]⟩ : ByteArray), (⟨#[114, 114, 97]⟩ : ByteArray), (⟨#[100, 97, 97]⟩ : ByteArray), (⟨#[99, 112, 108]⟩ : ByteArray), (⟨#[115, 99, 102]⟩ : ByteArray), (⟨#[99, 99, 102]⟩ : ByteArray)] : List ByteArray).length) (some (rdD ([(⟨#[114, 108, 99, 97]⟩ : ByteArray), (⟨#[114, 114, 99, 97]⟩ : ByteArray), (⟨#[114, 108, 97]⟩ : ByteArray), (⟨#[114, 114, 97]⟩ : ByteArray), (⟨#[100, 97, 97]⟩ : ByteArray), (⟨#[99, 112, 108]⟩ : ByteArray), (⟨#[115, 99, 102]⟩ : ByteArray), (⟨#[99, 99, 102]⟩ : ByteArray)] : List ByteArray) p1)) none)))))))
theorem charabancref09_zero_70_ok (K : Nat) (M0 : Nat → Prop) (w0 : World) (a0 : Int) (a1 : Int) (a2 : Int) (a3 : Int) (a4 : Int) (a5 : Int) (p1 : Int) (p2 : Int) (p3 : Int) (p4 : Int) (ho : ∀ b, M0 b → b < w0.heap.size) {r : ByteArray} (h : charabancref09_zero_70.f K a0 a1 a2 a3 a4 a5 p1 p2 p3 p4 = some r) :
  Calls Tryz.prog 70 #[.agg #[iA a0, iB a1, iB a2, iC a3, iA a4, iA a5], iA p1, iA p2, iA p3, iA p4] w0 (charabancref09_zero_70.post M0 w0 r) := by
 unfold charabancref09_zero_70.f at h
 have h0 : Holds M0 w0 w0 [] := Holds.start ho
 refine calls_of F70 rfl [.agg #[iA a0, iB a1, iB a2, iC a3, iA a4, iA a5], iA p1, iA p2, iA p3, iA p4] (by kernel_rfl) (Xg 1 [.c 1, .c 2] (Xr (Yx 5 25 [iA a0, iB a1, iB a2, iC a3, iA a4, iA a5] h0 ?_)))
 intro w1 b2 h3 hb4 hn5
 refine Yd 1 [(1, iA p1), (2, iA p2), (3, iA p3), (4, iA p4), (5, pt b2)] (Xg 1 [.c 3, .c 4] (Xr (Ya 15 0 25 b2 0 (.agg #[iA a0, iB a1, iB a2, iC a3, iA a4, iA a5]) h3 rfl ?_)))
 obtain ⟨t10, hg9, h⟩ := of_bind h
 refine Yc 16 108 #[.agg #[iA a0, iB a1, iB a2, iC a3, iA a4, iA a5], iA 2, tS sg25] ((charabancref09_pair_108_ok K _ w1  a0 a1 a2 a3 a4 a5 2 sg25 h3.old' hg9).mono ?_)
 rintro _ w6 ⟨rfl, hb7⟩
 refine ⟨_, rfl, ?_⟩
 have h8 := h3.call hb7
 refine Zd 1 [1, 2, 3, 4, 5, 11] [(11, tS t10)] (Xg 1 [.c 5, .c 6] (Xr (Ya 17 0 25 b2 0 (.agg #[iA a0, iB a1, iB a2, iC a3, iA a4, iA a5]) h8 rfl (Zp 1 [1, 2, 4, 5, 11, 17, 18] [(17, .agg #[iA a0, iB a1, iB a2, iC a3, iA a4, iA a5]), (18, iA p3)] ?_))))
 obtain ⟨t15, hg14, h⟩ := of_bind h
 refine Yc 19 108 #[.agg #[iA a0, iB a1, iB a2, iC a3, iA a4, iA a5], iA p3, tS sg25] ((charabancref09_pair_108_ok K _ w6  a0 a1 a2 a3 a4 a5 p3 sg25 h8.old' hg14).mono ?_)
 rintro _ w11 ⟨rfl, hb12⟩
 refine ⟨_, rfl, ?_⟩
 have h13 := h8.call hb12
 refine Zp 1 [1, 2, 4, 5, 11, 12] [(12, tS t15)] (Zy 2 8 [.c 9, .c 73] 1 [1, 4, 5, 11, 12, 20] [(20, iA p2)] (Zy 2 11 [.c 12, .blk 0, .c 73] 2 [1, 4, 5, 11, 12, 20, 21] [(21, tB (p2 == 0))] (Ye (Vc 21 13 26 h (fun hc16 h => ?_) fun hc16 h => ?_))))
 ·refine Xg 1 [.c 14, .c 15, .blk 0, .c 73] (RunsI.any 8 (by kernel_rfl) (by kernel_rfl) (by kernel_rfl) (Kp ([] : List Nat) (World.drew w11)) ?_)
  have h18 := h13.drew
  generalize World.drew w11 = w17 at h18 ⊢
  have hS19 := Kp.refl ([] : List Nat) w17
  refine Wa 0 23 0 25 b2 0 (.agg #[iA a0, iB a1, iB a2, iC a3, iA a4, iA a5]) [] h18 rfl hS19 rfl ?_
  obtain ⟨t22, hg21, h⟩ := of_bind h
  refine Wc 1 24 (tS t22) 110 #[.agg #[iA a0, iB a1, iB a2, iC a3, iA a4, iA a5]] hS19 (fun w hk => charabancref09_to_110_ok K (fun _ => False) w a0 a1 a2 a3 a4 a5 nF hg21) ?_
  have ⟨hc23, h⟩ := oz h
  refine Wt 2 25 sg20 t22 hS19 hc23 (Wa 3 26 0 25 b2 0 (.agg #[iA a0, iB a1, iB a2, iC a3, iA a4, iA a5]) [] h18 rfl hS19 rfl ?_)
  obtain ⟨t25, hg24, h⟩ := of_bind h
  refine Wc 4 27 (tS t25) 110 #[.agg #[iA a0, iB a1, iB a2, iC a3, iA a4, iA a5]] hS19 (fun w hk => charabancref09_to_110_ok K (fun _ => False) w a0 a1 a2 a3 a4 a5 nF hg24) ?_
  have ⟨hc26, h⟩ := oz h
  refine Wt 5 28 sg9 t25 hS19 hc26 (AnyE.one 6 (by kernel_rfl) (fun w27 hu28 => ?_))
  have h29 := h18.call hu28
  have hS30 := hS19.up hu28
  refine OpE.lit 29 9 [tS sg21, tS sg22, tS (sg20 ++ t22), tS (sg9 ++ t25)] 4 h29 (by kernel_rfl) (by kernel_rfl) ?_
  intro w31 b32 h33 hb34 hn35
  have hn36 := Nat.le_trans hS30.1 hn35
  have hS37 := hS30.up hb34
  refine ⟨hS37, ?_⟩
  refine Wu 7 13 (.slice (some ⟨b32, 0, none⟩) (([sg21, sg22, (sg20 ++ t22), (sg9 ++ t25)] : List ByteArray).length) 4) hS37 (AnyE.done (by kernel_rfl) (fun w38 hu39 => ?_))
  have h40 := h33.call hu39
  refine Vl [(1, iA p1), (5, pt b2), (13, .slice (some ⟨b32, 0, none⟩) (([sg21, sg22, (sg20 ++ t22), (sg9 ++ t25)] : List ByteArray).length) 4)] (Ze 2 17 [.c 18, .c 23, .blk 0, .c 73] 2 [1, 5, 13, 31] [(31, tB (decide (p1 < 4)))] (Vc 31 19 22 h (fun hc41 h => ?_) fun hc41 h => ?_))
  ·refine Xq 1 20 [.c 21, .c 23, .blk 0, .c 73] 2 [(32, .slice (some ⟨b32, 0, none⟩) (([sg21, sg22, (sg20 ++ t22), (sg9 ++ t25)] : List ByteArray).length) 4), (33, iA p1)] ?_
   have h42 := h40.boxOwn 1 rfl Rp.str ([sg21, sg22, (sg20 ++ t22), (sg9 ++ t25)] : List ByteArray) (cells_str _ _ _) (Nat.le_of_ble_eq_true (by kernel_rfl))
   have ⟨hc43, h⟩ := oz h
   refine Yo (OpE.idxOwnA 34 1 34 9 p1 h42 (by kernel_rfl) rfl (by kernel_rfl) (by kernel_rfl) hc43 (Yo (OpE.loadOwnA 35 1 9 9 p1 0 (o := (Int.toNat p1) * 1 + 0) h42 (by kernel_rfl) rfl (by kernel_rfl) (by kernel_rfl) hc43 (fun cs44 hk45 => ?_))))
   obtain rfl := hk45
   refine ⟨tS (rdD ([sg21, sg22, (sg20 ++ t22), (sg9 ++ t25)] : List ByteArray) p1), by kernel_rfl, ?_⟩
   refine Yd 1 [(10, tS (rdD ([sg21, sg22, (sg20 ++ t22), (sg9 ++ t25)] : List ByteArray) p1))] ?_
   obtain rfl := sI h
   exact Xt (tS (rdD ([sg21, sg22, (sg20 ++ t22), (sg9 ++ t25)] : List ByteArray) p1)) ⟨rfl, h42.below⟩
  ·refine Xg 1 [.c 23, .blk 0, .c 73] (Xg 1 [.c 24, .c 25, .blk 0, .c 73] (RunsI.any 11 (by kernel_rfl) (by kernel_rfl) (by kernel_rfl) (Kp ([] : List Nat) (World.drew w38)) ?_))
   have h47 := h40.drew
   generalize World.drew w38 = w46 at h47 ⊢
   have hS48 := Kp.refl ([] : List Nat) w46
   refine Wu 1 37 (iA p1) hS48 (Wu 2 38 (iA (wA (p1 - 4))) hS48 (Wa 7 43 0 25 b2 0 (.agg #[iA a0, iB a1, iB a2, iC a3, iA a4, iA a5]) [] h47 rfl hS48 rfl (AnyE.one 0 (by kernel_rfl) (fun w50 hu51 => ?_))))
   have h52 := h47.call hu51
   have hS53 := hS48.up hu51
   obtain ⟨t58, hg57, h⟩ := of_bind h
   refine OpE.call 36 (by kernel_rfl) 111 #[] (by kernel_rfl) ((charabancref09_conds_111_ok K _ w50  h52.old' hg57).mono ?_)
   rintro _ w54 ⟨A59, c60, rfl, hr62⟩
   refine ⟨_, rfl, ?_⟩
   have hb55 := hr62.below
   have h56 := h52.join hr62
   have hS63 := hS53.up hb55
   refine ⟨hS63, ?_⟩
   obtain ⟨t65, hg64, h⟩ := of_bind h
   refine Wc 8 44 (tS t65) 110 #[.agg #[iA a0, iB a1, iB a2, iC a3, iA a4, iA a5]] hS63 (fun w hk => charabancref09_to_110_ok K (fun _ => False) w a0 a1 a2 a3 a4 a5 nF hg64) (AnyE.one 3 (by kernel_rfl) (fun w66 hu67 => ?_))
   have h68 := h56.call hu67
   have hS69 := hS63.up hu67
   have ⟨hc70, h⟩ := oz h
   refine OpE.idxOwnA 39 2 34 9 (wA (p1 - 4)) h68 (by kernel_rfl) rfl (by kernel_rfl) (by kernel_rfl) hc70 (⟨hS69, ?_⟩)
   refine AnyE.one 4 (by kernel_rfl) (fun w72 hu73 => ?_)
   have h74 := h68.call hu73
   have hS75 := hS69.up hu73
   refine OpE.loadOwnA 40 2 9 9 (wA (p1 - 4)) 0 (o := (Int.toNat (wA (p1 - 4))) * 1 + 0) h74 (by kernel_rfl) rfl (by kernel_rfl) (by kernel_rfl) hc70 (fun cs76 hk77 => ?_)
   obtain rfl := hk77
   refine ⟨tS (rdD t58 (wA (p1 - 4))), by kernel_rfl, ?_⟩
   refine ⟨hS75, ?_⟩
   have ⟨hc79, h⟩ := oz h
   refine Wt 5 41 sg9 (rdD t58 (wA (p1 - 4))) hS75 hc79 ?_
   have ⟨hc80, h⟩ := oz h
   refine Wt 6 42 (sg9 ++ (rdD t58 (wA (p1 - 4)))) sg2 hS75 hc80 ?_
   have ⟨hc81, h⟩ := oz h
   refine Wt 9 45 ((sg9 ++ (rdD t58 (wA (p1 - 4)))) ++ sg2) t65 hS75 hc81 (Wu 10 10 (tS (((sg9 ++ (rdD t58 (wA (p1 - 4)))) ++ sg2) ++ t65)) hS75 (AnyE.done (by kernel_rfl) (fun w82 hu83 => ?_)))
   have h84 := h74.call hu83
   refine Vl [(10, tS (((sg9 ++ (rdD t58 (wA (p1 - 4)))) ++ sg2) ++ t65))] ?_
   obtain rfl := sI h
   exact Xt (tS (((sg9 ++ (rdD t58 (wA (p1 - 4)))) ++ sg2) ++ t65)) ⟨rfl, h84.below⟩
 ·refine Xd 1 27 [.c 28, .blk 0, .c 73] 2 [(1, iA p1), (4, iA p4), (5, pt b2), (11, tS t10), (12, tS t15), (20, iA p2), (46, tB (p2 == 1))] (Vc 46 29 40 h (fun hc85 h => ?_) fun hc85 h => ?_)
  ·refine Xd 2 31 [.c 32, .c 37, .blk 0, .c 73] 2 [(5, pt b2), (11, tS t10), (12, tS t15), (49, tB (p4 == 0))] (Vc 49 33 36 h (fun hc86 h => ?_) fun hc86 h => ?_)
   ·refine Xq 1 34 [.c 35, .c 37, .blk 0, .c 73] 1 [(5, pt b2), (50, tS t15)] ?_
    have ⟨hc87, h⟩ := oz h
    refine Yt 51 sg1 t15 hc87 ?_
    have ⟨hc88, h⟩ := oz h
    refine Yt 52 (sg1 ++ t15) sg2 hc88 (Ya 53 0 25 b2 0 (.agg #[iA a0, iB a1, iB a2, iC a3, iA a4, iA a5]) h13 rfl ?_)
    obtain ⟨t93, hg92, h⟩ := of_bind h
    refine Yc 54 109 #[.agg #[iA a0, iB a1, iB a2, iC a3, iA a4, iA a5]] ((charabancref09_nn_109_ok K _ w11  a0 a1 a2 a3 a4 a5 h13.old' hg92).mono ?_)
    rintro _ w89 ⟨rfl, hb90⟩
    refine ⟨_, rfl, ?_⟩
    have h91 := h13.call hb90
    have ⟨hc94, h⟩ := oz h
    refine Yt 55 ((sg1 ++ t15) ++ sg2) t93 hc94 (Yd 1 [(10, tS (((sg1 ++ t15) ++ sg2) ++ t93))] ?_)
    obtain rfl := sI h
    exact Xt (tS (((sg1 ++ t15) ++ sg2) ++ t93)) ⟨rfl, h91.below⟩
   ·refine Xg 1 [.c 37, .blk 0, .c 73] (Xq 1 38 [.c 39, .blk 0, .c 73] 1 [(12, tS t15), (56, tS t10)] ?_)
    have ⟨hc95, h⟩ := oz h
    refine Yt 57 sg50 t10 hc95 ?_
    have ⟨hc96, h⟩ := oz h
    refine Yt 58 (sg50 ++ t10) sg2 hc96 (Yp 1 [(58, tS ((sg50 ++ t10) ++ sg2)), (59, tS t15)] ?_)
    have ⟨hc97, h⟩ := oz h
    refine Yt 60 ((sg50 ++ t10) ++ sg2) t15 hc97 (Yd 1 [(10, tS (((sg50 ++ t10) ++ sg2) ++ t15))] ?_)
    obtain rfl := sI h
    exact Xt (tS (((sg50 ++ t10) ++ sg2) ++ t15)) ⟨rfl, h13.below⟩
  ·refine Xd 1 41 [.c 42, .blk 0, .c 73] 2 [(1, iA p1), (4, iA p4), (5, pt b2), (11, tS t10), (12, tS t15), (20, iA p2), (61, tB (p2 == 2))] (Vc 61 43 48 h (fun hc98 h => ?_) fun hc98 h => ?_)
   ·refine Xg 1 [.c 44, .c 45, .blk 0, .c 73] (Xr (Ya 63 0 25 b2 0 (.agg #[iA a0, iB a1, iB a2, iC a3, iA a4, iA a5]) h13 rfl ?_))
    obtain ⟨t103, hg102, h⟩ := of_bind h
    refine Yc 64 109 #[.agg #[iA a0, iB a1, iB a2, iC a3, iA a4, iA a5]] ((charabancref09_nn_109_ok K _ w11  a0 a1 a2 a3 a4 a5 h13.old' hg102).mono ?_)
    rintro _ w99 ⟨rfl, hb100⟩
    refine ⟨_, rfl, ?_⟩
    have h101 := h13.call hb100
    have ⟨hc104, h⟩ := oz h
    refine Yt 65 sg3 t103 hc104 ?_
    have ⟨hc105, h⟩ := oz h
    refine Yt 66 (sg3 ++ t103) sg0 hc105 (Yp 1 [(1, iA p1), (11, tS t10), (14, tS ((sg3 ++ t103) ++ sg0))] (Zy 1 46 [.c 47, .blk 0, .c 73] 1 [1, 11, 14, 67] [(67, tS ((sg3 ++ t103) ++ sg0))] ?_))
    have ⟨hc106, h⟩ := oz h
    refine Yt 68 sg1 ((sg3 ++ t103) ++ sg0) hc106 ?_
    have ⟨hc107, h⟩ := oz h
    refine Yt 69 (sg1 ++ ((sg3 ++ t103) ++ sg0)) sg2 hc107 (Zp 1 [1, 11, 14, 69, 70] [(69, tS ((sg1 ++ ((sg3 ++ t103) ++ sg0)) ++ sg2)), (70, tS t10)] ?_)
    have ⟨hc108, h⟩ := oz h
    refine Yt 71 ((sg1 ++ ((sg3 ++ t103) ++ sg0)) ++ sg2) t10 hc108 (Zp 1 [1, 14, 71, 72] [(71, tS (((sg1 ++ ((sg3 ++ t103) ++ sg0)) ++ sg2) ++ t10)), (72, tS t10)] ?_)
    have ⟨hc109, h⟩ := oz h
    refine Yt 73 sg1 t10 hc109 ?_
    have ⟨hc110, h⟩ := oz h
    refine Yt 74 (sg1 ++ t10) sg2 hc110 (Zp 1 [1, 14, 71, 74, 75] [(74, tS ((sg1 ++ t10) ++ sg2)), (75, tS ((sg3 ++ t103) ++ sg0))] ?_)
    have ⟨hc111, h⟩ := oz h
    refine Yt 76 ((sg1 ++ t10) ++ sg2) ((sg3 ++ t103) ++ sg0) hc111 (Zp 1 [1, 14, 71, 76, 77] [(76, tS (((sg1 ++ t10) ++ sg2) ++ ((sg3 ++ t103) ++ sg0))), (77, tS ((sg3 ++ t103) ++ sg0))] (Yt 78 sg1 ((sg3 ++ t103) ++ sg0) hc106 ?_))
    have ⟨hc112, h⟩ := oz h
    refine Yt 79 (sg1 ++ ((sg3 ++ t103) ++ sg0)) sg29 hc112 (Zp 1 [1, 71, 76, 79, 80] [(79, tS ((sg1 ++ ((sg3 ++ t103) ++ sg0)) ++ sg29)), (80, tS ((sg3 ++ t103) ++ sg0))] ?_)
    have ⟨hc113, h⟩ := oz h
    refine Yt 81 sg35 ((sg3 ++ t103) ++ sg0) hc113 (Yo (OpE.lit 82 9 [tS sg51, tS sg52, tS sg53, tS sg54, tS (((sg1 ++ ((sg3 ++ t103) ++ sg0)) ++ sg2) ++ t10), tS (((sg1 ++ t10) ++ sg2) ++ ((sg3 ++ t103) ++ sg0)), tS ((sg1 ++ ((sg3 ++ t103) ++ sg0)) ++ sg29), tS (sg35 ++ ((sg3 ++ t103) ++ sg0))] 8 h101 (by kernel_rfl) (by kernel_rfl) ?_))
    intro w114 b115 h116 hb117 hn118
    refine Yp 1 [(82, .slice (some ⟨b115, 0, none⟩) (([sg51, sg52, sg53, sg54, (((sg1 ++ ((sg3 ++ t103) ++ sg0)) ++ sg2) ++ t10), (((sg1 ++ t10) ++ sg2) ++ ((sg3 ++ t103) ++ sg0)), ((sg1 ++ ((sg3 ++ t103) ++ sg0)) ++ sg29), (sg35 ++ ((sg3 ++ t103) ++ sg0))] : List ByteArray).length) 8), (83, iA p1)] ?_
    have h119 := h116.boxOwn 1 rfl Rp.str ([sg51, sg52, sg53, sg54, (((sg1 ++ ((sg3 ++ t103) ++ sg0)) ++ sg2) ++ t10), (((sg1 ++ t10) ++ sg2) ++ ((sg3 ++ t103) ++ sg0)), ((sg1 ++ ((sg3 ++ t103) ++ sg0)) ++ sg29), (sg35 ++ ((sg3 ++ t103) ++ sg0))] : List ByteArray) (cells_str _ _ _) (Nat.le_of_ble_eq_true (by kernel_rfl))
    have ⟨hc120, h⟩ := oz h
    refine Yo (OpE.idxOwnA 84 1 34 9 p1 h119 (by kernel_rfl) rfl (by kernel_rfl) (by kernel_rfl) hc120 (Yo (OpE.loadOwnA 85 1 9 9 p1 0 (o := (Int.toNat p1) * 1 + 0) h119 (by kernel_rfl) rfl (by kernel_rfl) (by kernel_rfl) hc120 (fun cs121 hk122 => ?_))))
    obtain rfl := hk122
    refine ⟨tS (rdD ([sg51, sg52, sg53, sg54, (((sg1 ++ ((sg3 ++ t103) ++ sg0)) ++ sg2) ++ t10), (((sg1 ++ t10) ++ sg2) ++ ((sg3 ++ t103) ++ sg0)), ((sg1 ++ ((sg3 ++ t103) ++ sg0)) ++ sg29), (sg35 ++ ((sg3 ++ t103) ++ sg0))] : List ByteArray) p1), by kernel_rfl, ?_⟩
    refine Yd 1 [(10, tS (rdD ([sg51, sg52, sg53, sg54, (((sg1 ++ ((sg3 ++ t103) ++ sg0)) ++ sg2) ++ t10), (((sg1 ++ t10) ++ sg2) ++ ((sg3 ++ t103) ++ sg0)), ((sg1 ++ ((sg3 ++ t103) ++ sg0)) ++ sg29), (sg35 ++ ((sg3 ++ t103) ++ sg0))] : List ByteArray) p1))] ?_
    obtain rfl := sI h
    exact Xt (tS (rdD ([sg51, sg52, sg53, sg54, (((sg1 ++ ((sg3 ++ t103) ++ sg0)) ++ sg2) ++ t10), (((sg1 ++ t10) ++ sg2) ++ ((sg3 ++ t103) ++ sg0)), ((sg1 ++ ((sg3 ++ t103) ++ sg0)) ++ sg29), (sg35 ++ ((sg3 ++ t103) ++ sg0))] : List ByteArray) p1)) ⟨rfl, h119.below⟩
   ·refine Xd 1 49 [.c 50, .blk 0, .c 73] 2 [(1, iA p1), (4, iA p4), (5, pt b2), (12, tS t15), (20, iA p2), (86, tB (p2 == 3))] (Vc 86 51 54 h (fun hc123 h => ?_) fun hc123 h => ?_)
    ·refine Xg 1 [.c 52, .c 53, .blk 0, .c 73] (Xr (Yo (OpE.lit 88 9 [tS sg18, tS sg19] 2 h13 (by kernel_rfl) (by kernel_rfl) ?_)))
     intro w124 b125 h126 hb127 hn128
     refine Yp 1 [(12, tS t15), (88, .slice (some ⟨b125, 0, none⟩) (([sg18, sg19] : List ByteArray).length) 2), (89, iA p4)] ?_
     have h129 := h126.boxOwn 1 rfl Rp.str ([sg18, sg19] : List ByteArray) (cells_str _ _ _) (Nat.le_of_ble_eq_true (by kernel_rfl))
     have ⟨hc130, h⟩ := oz h
     refine Yo (OpE.idxOwnA 90 1 34 9 p4 h129 (by kernel_rfl) rfl (by kernel_rfl) (by kernel_rfl) hc130 (Yo (OpE.loadOwnA 91 1 9 9 p4 0 (o := (Int.toNat p4) * 1 + 0) h129 (by kernel_rfl) rfl (by kernel_rfl) (by kernel_rfl) hc130 (fun cs131 hk132 => ?_))))
     obtain rfl := hk132
     refine ⟨tS (rdD ([sg18, sg19] : List ByteArray) p4), by kernel_rfl, ?_⟩
     refine Yp 1 [(91, tS (rdD ([sg18, sg19] : List ByteArray) p4)), (92, tS t15)] ?_
     have ⟨hc133, h⟩ := oz h
     refine Yt 93 (rdD ([sg18, sg19] : List ByteArray) p4) t15 hc133 (Yd 1 [(10, tS ((rdD ([sg18, sg19] : List ByteArray) p4) ++ t15))] ?_)
     obtain rfl := sI h
     exact Xt (tS ((rdD ([sg18, sg19] : List ByteArray) p4) ++ t15)) ⟨rfl, h129.below⟩
    ·refine Xd 1 55 [.c 56, .blk 0, .c 73] 2 [(1, iA p1), (5, pt b2), (20, iA p2), (94, tB (p2 == 4))] (Vc 94 57 60 h (fun hc134 h => ?_) fun hc134 h => ?_)
     ·refine Xg 1 [.c 58, .c 59, .blk 0, .c 73] (Xr (Ya 96 0 25 b2 0 (.agg #[iA a0, iB a1, iB a2, iC a3, iA a4, iA a5]) h13 rfl (Yp 1 [(96, .agg #[iA a0, iB a1, iB a2, iC a3, iA a4, iA a5]), (97, iA p1)] ?_)))
      obtain ⟨t139, hg138, h⟩ := of_bind h
      refine Yc 98 71 #[.agg #[iA a0, iB a1, iB a2, iC a3, iA a4, iA a5], iA p1] ((charabancref09_reg_71_ok K _ w11  a0 a1 a2 a3 a4 a5 p1 h13.old' hg138).mono ?_)
      rintro _ w135 ⟨rfl, hb136⟩
      refine ⟨_, rfl, ?_⟩
      have h137 := h13.call hb136
      have ⟨hc140, h⟩ := oz h
      refine Yt 99 sg18 t139 hc140 (Yd 1 [(10, tS (sg18 ++ t139))] ?_)
      obtain rfl := sI h
      exact Xt (tS (sg18 ++ t139)) ⟨rfl, h137.below⟩
     ·refine Xd 1 61 [.c 62, .blk 0, .c 73] 2 [(1, iA p1), (5, pt b2), (20, iA p2), (100, tB (p2 == 5))] (Vc 100 63 66 h (fun hc141 h => ?_) fun hc141 h => ?_)
      ·refine Xg 1 [.c 64, .c 65, .blk 0, .c 73] (Xr (Ya 102 0 25 b2 0 (.agg #[iA a0, iB a1, iB a2, iC a3, iA a4, iA a5]) h13 rfl (Yp 1 [(102, .agg #[iA a0, iB a1, iB a2, iC a3, iA a4, iA a5]), (103, iA p1)] ?_)))
       obtain ⟨t146, hg145, h⟩ := of_bind h
       refine Yc 104 71 #[.agg #[iA a0, iB a1, iB a2, iC a3, iA a4, iA a5], iA p1] ((charabancref09_reg_71_ok K _ w11  a0 a1 a2 a3 a4 a5 p1 h13.old' hg145).mono ?_)
       rintro _ w142 ⟨rfl, hb143⟩
       refine ⟨_, rfl, ?_⟩
       have h144 := h13.call hb143
       have ⟨hc147, h⟩ := oz h
       refine Yt 105 sg19 t146 hc147 (Yd 1 [(10, tS (sg19 ++ t146))] ?_)
       obtain rfl := sI h
       exact Xt (tS (sg19 ++ t146)) ⟨rfl, h144.below⟩
      ·refine Xd 1 67 [.c 68, .blk 0, .c 73] 2 [(1, iA p1), (5, pt b2), (106, tB (p2 == 6))] (Vc 106 69 72 h (fun hc148 h => ?_) fun hc148 h => ?_)
       ·refine Xg 1 [.c 70, .c 71, .blk 0, .c 73] (RunsI.any 9 (by kernel_rfl) (by kernel_rfl) (by kernel_rfl) (Kp ([] : List Nat) (World.drew w11)) ?_)
        have h150 := h13.drew
        generalize World.drew w11 = w149 at h150 ⊢
        have hS151 := Kp.refl ([] : List Nat) w149
        refine Wa 0 108 0 25 b2 0 (.agg #[iA a0, iB a1, iB a2, iC a3, iA a4, iA a5]) [] h150 rfl hS151 rfl (Wu 1 109 (iA p1) hS151 ?_)
        obtain ⟨t154, hg153, h⟩ := of_bind h
        refine Wc 2 110 (tS t154) 71 #[.agg #[iA a0, iB a1, iB a2, iC a3, iA a4, iA a5], iA p1] hS151 (fun w hk => charabancref09_reg_71_ok K (fun _ => False) w a0 a1 a2 a3 a4 a5 p1 nF hg153) ?_
        have ⟨hc155, h⟩ := oz h
        refine Wt 3 111 sg1 t154 hS151 hc155 ?_
        have ⟨hc156, h⟩ := oz h
        refine Wt 4 112 (sg1 ++ t154) sg2 hS151 hc156 (Wa 5 113 0 25 b2 0 (.agg #[iA a0, iB a1, iB a2, iC a3, iA a4, iA a5]) [] h150 rfl hS151 rfl ?_)
        obtain ⟨t158, hg157, h⟩ := of_bind h
        refine Wc 6 114 (tS t158) 112 #[.agg #[iA a0, iB a1, iB a2, iC a3, iA a4, iA a5]] hS151 (fun w hk => charabancref09_n_112_ok K (fun _ => False) w a0 a1 a2 a3 a4 a5 nF hg157) ?_
        have ⟨hc159, h⟩ := oz h
        refine Wt 7 115 ((sg1 ++ t154) ++ sg2) t158 hS151 hc159 (Wu 8 10 (tS (((sg1 ++ t154) ++ sg2) ++ t158)) hS151 (AnyE.done (by kernel_rfl) (fun w160 hu161 => ?_)))
        have h162 := h150.call hu161
        refine Vl [(10, tS (((sg1 ++ t154) ++ sg2) ++ t158))] ?_
        obtain rfl := sI h
        exact Xt (tS (((sg1 ++ t154) ++ sg2) ++ t158)) ⟨rfl, h162.below⟩
       ·refine Xg 1 [.blk 0, .c 73] (Xg 2 [.c 74, .c 75] (Xr (Yo (OpE.lit 116 9 [tS sg55, tS sg56, tS sg57, tS sg58, tS sg59, tS sg60, tS sg61, tS sg62] 8 h13 (by kernel_rfl) (by kernel_rfl) ?_))))
        intro w163 b164 h165 hb166 hn167
        refine Yp 1 [(116, .slice (some ⟨b164, 0, none⟩) (([sg55, sg56, sg57, sg58, sg59, sg60, sg61, sg62] : List ByteArray).length) 8), (117, iA p1)] ?_
        have h168 := h165.boxOwn 1 rfl Rp.str ([sg55, sg56, sg57, sg58, sg59, sg60, sg61, sg62] : List ByteArray) (cells_str _ _ _) (Nat.le_of_ble_eq_true (by kernel_rfl))
        have ⟨hc169, h⟩ := oz h
        refine Yo (OpE.idxOwnA 118 1 34 9 p1 h168 (by kernel_rfl) rfl (by kernel_rfl) (by kernel_rfl) hc169 (Yo (OpE.loadOwnA 119 1 9 9 p1 0 (o := (Int.toNat p1) * 1 + 0) h168 (by kernel_rfl) rfl (by kernel_rfl) (by kernel_rfl) hc169 (fun cs170 hk171 => ?_))))
        obtain rfl := hk171
        refine ⟨tS (rdD ([sg55, sg56, sg57, sg58, sg59, sg60, sg61, sg62] : List ByteArray) p1), by kernel_rfl, ?_⟩
        refine Yd 1 [(10, tS (rdD ([sg55, sg56, sg57, sg58, sg59, sg60, sg61, sg62] : List ByteArray) p1))] ?_
        obtain rfl := sI h
        exact Xt (tS (rdD ([sg55, sg56, sg57, sg58, sg59, sg60, sg61, sg62] : List ByteArray) p1)) ⟨rfl, h168.below⟩
end

section
def charabancref09_sums_72.post (M0 : Nat → Prop) (w0 : World) (r : (List ByteArray)) : Ending → World → Prop := fun e w => ∃ (A1 : Option Addr) (c1 : Nat), e = .returned (.slice A1 r.length c1) ∧ Holds M0 w0 w [own Rp.str 9 (.slice A1 r.length c1) r]
def charabancref09_sums_72.f (K : Nat) : Option (List ByteArray) := some ([(⟨#[97, 100, 100, 32, 97, 44]⟩ : ByteArray), (⟨#[97, 100, 99, 32, 97, 44]⟩ : ByteArray), (⟨#[115, 117, 98, 32]⟩ : ByteArray), (⟨#[115, 98, 99, 32, 97, 44]⟩ : ByteArray), (⟨#[97, 110, 100, 32]⟩ : ByteArray), (⟨#[120, 111, 114, 32]⟩ : ByteArray), (⟨#[111, 114, 32]⟩ : ByteArray), (⟨#[99, 112, 32]⟩ : ByteArray)] : List ByteArray)
theorem charabancref09_sums_72_ok (K : Nat) (M0 : Nat → Prop) (w0 : World) (ho : ∀ b, M0 b → b < w0.heap.size) {r : (List ByteArray)} (h : charabancref09_sums_72.f K = some r) :
  Calls Tryz.prog 72 #[] w0 (charabancref09_sums_72.post M0 w0 r) := by
 unfold charabancref09_sums_72.f at h
 have h0 : Holds M0 w0 w0 [] := Holds.start ho
 refine calls_of F72 rfl [] (by kernel_rfl) (Xd 1 1 [.c 2] 1 [] (Xg 1 [.c 3, .c 4] (Xr (Yo (OpE.lit 1 9 [tS sg78, tS sg79, tS sg80, tS sg81, tS sg82, tS sg83, tS sg84, tS sg85] 8 h0 (by kernel_rfl) (by kernel_rfl) ?_)))))
 intro w1 b2 h3 hb4 hn5
 refine Yd 1 [(0, .slice (some ⟨b2, 0, none⟩) (([sg78, sg79, sg80, sg81, sg82, sg83, sg84, sg85] : List ByteArray).length) 8)] (Xt (.slice (some ⟨b2, 0, none⟩) (([sg78, sg79, sg80, sg81, sg82, sg83, sg84, sg85] : List ByteArray).length) 8) ?_)
 have h6 := h3.boxOwn 0 rfl Rp.str ([sg78, sg79, sg80, sg81, sg82, sg83, sg84, sg85] : List ByteArray) (cells_str _ _ _) (Nat.le_of_ble_eq_true (by kernel_rfl))
 obtain rfl := sI h
 exact ⟨(some ⟨b2, 0, none⟩), 8, rfl, h6.pk [0]⟩
end

section
abbrev charabancref09_three_73.post := pS
def charabancref09_three_73.f (K : Nat) (p0_0 : Int) (p0_1 : Int) (p0_2 : Int) (p0_3 : Int) (p0_4 : Int) (p0_5 : Int) (p1 : Int) (p2 : Int) (p3 : Int) (p4 : Int) : Option ByteArray := (charabancref09_pair_108.f K p0_0 p0_1 p0_2 p0_3 p0_4 p0_5 2 (⟨#[115, 112]⟩ : ByteArray)).bind fun t10 => cond (p2 == 0) ((charabancref09_conds_111.f K).bind fun t16 => cond (inR p1 t16.length) (cond (mayCat (⟨#[114, 101, 116, 32]⟩ : ByteArray).size (rdD t16 p1).size) (some ((⟨#[114, 101, 116, 32]⟩ : ByteArray) ++ (rdD t16 p1))) none) none) (cond (p2 == 1) (cond (p4 == 0) ((charabancref09_pair_108.f K p0_0 p0_1 p0_2 p0_3 p0_4 p0_5 p3 (⟨#[97, 102]⟩ : ByteArray)).bind fun t31 => cond (mayCat (⟨#[112, 111, 112, 32]⟩ : ByteArray).size t31.size) (some ((⟨#[112, 111, 112, 32]⟩ : ByteArray) ++ t31)) none) (cond (mayCat (⟨#[106, 112, 32, 40]⟩ : ByteArray).size t10.size) (cond (mayCat ((⟨#[106, 112, 32, 40]⟩ : ByteArray) ++ t10).size (⟨#[41]⟩ : ByteArray).size) (cond (mayCat (⟨#[108, 100, 32, 115, 112, 44]⟩ : ByteArray).size t10.size) (cond (inR p3 ([(⟨#[114, 101, 116]⟩ : ByteArray), (⟨#[101, 120, 120]⟩ : ByteArray), (((⟨#[106, 112, 32, 40]⟩ : ByteArray) ++ t10) ++ (⟨#[41]⟩ : ByteArray)), ((⟨#[108, 100, 32, 115, 112, 44]⟩ : ByteArray) ++ t10)] : List ByteArray).length) (some (rdD ([(⟨#[114, 101, 116]⟩ : ByteArray), (⟨#[101, 120, 120]⟩ : ByteArray), (((⟨#[106, 112, 32, 40]⟩ : ByteArray) ++ t10) ++ (⟨#[41]⟩ : ByteArray)), ((⟨#[108, 100, 32, 115, 112, 44]⟩ : ByteArray) ++ t10)] : List ByteArray) p3)) none) none) none) none)) (cond (p2 == 2) ((charabancref09_conds_111.f K).bind fun t58 => (charabancref09_nn_109.f K p0_0 p0_1 p0_2 p0_3 p0_4 p0_5).bind fun t65 => cond (inR p1 t58.length) (cond (mayCat (⟨#[106, 112, 32]⟩ : ByteArray).size (rdD t58 p1).size) (cond (mayCat ((⟨#[106, 112, 32]⟩ : ByteArray) ++ (rdD t58 p1)).size (⟨#[44]⟩ : ByteArray).size) (cond (mayCat (((⟨#[106, 112, 32]⟩ : ByteArray) ++ (rdD t58 p1)) ++ (⟨#[44]⟩ : ByteArray)).size t65.size) (some ((((⟨#[106, 112, 32]⟩ : ByteArray) ++ (rdD t58 p1)) ++ (⟨#[44]⟩ : ByteArray)) ++ t65)) none) none) none) none) (cond (p2 == 3) ((charabancref09_nn_109.f K p0_0 p0_1 p0_2 p0_3 p0_4 p0_5).bind fun t91 => cond (mayCat (⟨#[106, 112, 32]⟩ : ByteArray).size t91.size) ((charabancref09_n_112.f K p0_0 p0_1 p0_2 p0_3 p0_4 p0_5).bind fun t94 => cond (mayCat (⟨#[111, 117, 116, 32, 40]⟩ : ByteArray).size t94.size) (cond (mayCat ((⟨#[111, 117, 116, 32, 40]⟩ : ByteArray) ++ t94).size (⟨#[41, 44, 97]⟩ : ByteArray).size) ((charabancref09_n_112.f K p0_0 p0_1 p0_2 p0_3 p0_4 p0_5).bind fun t98 => cond (mayCat (⟨#[105, 110, 32, 97, 44, 40]⟩ : ByteArray).size t98.size) (cond (mayCat ((⟨#[105, 110, 32, 97, 44, 40]⟩ : ByteArray) ++ t98).size (⟨#[41]⟩ : ByteArray).size) (cond (mayCat (⟨#[101, 120, 32, 40, 115, 112, 41, 44]⟩ : ByteArray).size t10.size) (cond (inR p1 ([((⟨#[106, 112, 32]⟩ : ByteArray) ++ t91), (⟨#[112, 114, 101, 102, 105, 120]⟩ : ByteArray), (((⟨#[111, 117, 116, 32, 40]⟩ : ByteArray) ++ t94) ++ (⟨#[41, 44, 97]⟩ : ByteArray)), (((⟨#[105, 110, 32, 97, 44, 40]⟩ : ByteArray) ++ t98) ++ (⟨#[41]⟩ : ByteArray)), ((⟨#[101, 120, 32, 40, 115, 112, 41, 44]⟩ : ByteArray) ++ t10), (⟨#[101, 120, 32, 100, 101, 44, 104, 108]⟩ : ByteArray), (⟨#[100, 105]⟩ : ByteArray), (⟨#[101, 105]⟩ : ByteArray)] : List ByteArray).length) (some (rdD ([((⟨#[106, 112, 32]⟩ : ByteArray) ++ t91), (⟨#[112, 114, 101, 102, 105, 120]⟩ : ByteArray), (((⟨#[111, 117, 116, 32, 40]⟩ : ByteArray) ++ t94) ++ (⟨#[41, 44, 97]⟩ : ByteArray)), (((⟨#[105, 110, 32, 97, 44, 40]⟩ : ByteArray) ++ t98) ++ (⟨#[41]⟩ : ByteArray)), ((⟨#[101, 120, 32, 40, 115, 112, 41, 44]⟩ : ByteArray) ++ t10), (⟨#[101, 120, 32, 100, 101, 44, 104, 108]⟩ : ByteArray), (⟨#[100, 105]⟩ : ByteArray), (⟨#[101, 105]⟩ : ByteArray)] : List ByteArray) p1)) none) none) none) none) none) none) none) (cond (p2 == 4) ((charabancref09_conds_111.f K).bind fun t143 => (charabancref09_nn_109.f K p0_0 p0_1 p0_2 p0_3 p0_4 p0_5).bind fun t150 => cond (inR p1 t143.length) (cond (mayCat (⟨#[99, 97, 108, 108, 32]⟩ : ByteArray).size (rdD t143 p1).size) (cond (mayCat ((⟨#[99, 97, 108, 108, 32]⟩ : ByteArray) ++ (rdD t143 p1)).size (⟨#[44]⟩ : ByteArray).size) (cond (mayCat (((⟨#[99, 97, 108, 108, 32]⟩ : ByteArray) ++ (rdD t143 p1)) ++ (⟨#[44]⟩ : ByteArray)).size t150.size) (some ((((⟨#[99, 97, 108, 108, 32]⟩ : ByteArray) ++ (rdD t143 p1)) ++ (⟨#[44]⟩ : ByteArray)) ++ t150)) none) none) none) none) (cond (p2 == 5) (cond (p4 == 0) ((charabancref09_pair_108.f K p0_0 p0_1 p0_2 p0_3 p0_4 p0_5 p3 (⟨#[97, 102]⟩ : ByteArray)).bind fun t176 => cond (mayCat (⟨#[112, 117, 115, 104, 32]⟩ : ByteArray).size t176.size) (some ((⟨#[112, 117, 115, 104, 32]⟩ : ByteArray) ++ t176)) none) (cond (p3 == 0) ((charabancref09_nn_109.f K p0_0 p0_1 p0_2 p0_3 p0_4 p0_5).bind fun t183 => cond (mayCat (⟨#[99, 97, 108, 108, 32]⟩ : ByteArray).size t183.size) (some ((⟨#[99, 97, 108, 108, 32]⟩ : ByteArray) ++ t183)) none) (some (⟨#[112, 114, 101, 102, 105, 120]⟩ : ByteArray)))) (cond (p2 == 6) ((charabancref09_sums_72.f K).bind fun t198 => (charabancref09_n_112.f K p0_0 p0_1 p0_2 p0_3 p0_4 p0_5).bind fun t205 => cond (inR p1 t198.length) (cond (mayCat (rdD t198 p1).size t205.size) (some ((rdD t198 p1) ++ t205)) none) none) ((charabancref09_Hex_43.f K (IntKind.wrap .i64 (8 * p1)) 2).bind fun t227 => cond (mayCat (⟨#[114, 115, 116, 32]⟩ : ByteArray).size t227.size) (some ((⟨#[114, 115, 116, 32]⟩ : ByteArray) ++ t227)) none)))))))
theorem charabancref09_three_73_ok (K : Nat) (M0 : Nat → Prop) (w0 : World) (a0 : Int) (a1 : Int) (a2 : Int) (a3 : Int) (a4 : Int) (a5 : Int) (p1 : Int) (p2 : Int) (p3 : Int) (p4 : Int) (ho : ∀ b, M0 b → b < w0.heap.size) {r : ByteArray} (h : charabancref09_three_73.f K a0 a1 a2 a3 a4 a5 p1 p2 p3 p4 = some r) :
  Calls Tryz.prog 73 #[.agg #[iA a0, iB a1, iB a2, iC a3, iA a4, iA a5], iA p1, iA p2, iA p3, iA p4] w0 (charabancref09_three_73.post M0 w0 r) := by
 unfold charabancref09_three_73.f at h
 have h0 : Holds M0 w0 w0 [] := Holds.start ho
 refine calls_of F73 rfl [.agg #[iA a0, iB a1, iB a2, iC a3, iA a4, iA a5], iA p1, iA p2, iA p3, iA p4] (by kernel_rfl) (Xg 1 [.c 1, .c 2] (Xr (Yx 5 25 [iA a0, iB a1, iB a2, iC a3, iA a4, iA a5] h0 ?_)))
 intro w1 b2 h3 hb4 hn5
 refine Yd 1 [(1, iA p1), (2, iA p2), (3, iA p3), (4, iA p4), (5, pt b2)] (Xg 1 [.c 3, .c 4] (Xr (Ya 12 0 25 b2 0 (.agg #[iA a0, iB a1, iB a2, iC a3, iA a4, iA a5]) h3 rfl ?_)))
 obtain ⟨t10, hg9, h⟩ := of_bind h
 refine Yc 13 108 #[.agg #[iA a0, iB a1, iB a2, iC a3, iA a4, iA a5], iA 2, tS sg25] ((charabancref09_pair_108_ok K _ w1  a0 a1 a2 a3 a4 a5 2 sg25 h3.old' hg9).mono ?_)
 rintro _ w6 ⟨rfl, hb7⟩
 refine ⟨_, rfl, ?_⟩
 have h8 := h3.call hb7
 refine Zp 1 [1, 2, 3, 4, 5, 11] [(11, tS t10)] (Zy 2 6 [.c 7, .c 75] 1 [1, 3, 4, 5, 11, 14] [(14, iA p2)] (Zy 2 9 [.c 10, .blk 0, .c 75] 2 [1, 3, 4, 5, 11, 14, 15] [(15, tB (p2 == 0))] (Ye (Vc 15 11 14 h (fun hc11 h => ?_) fun hc11 h => ?_))))
 ·refine Xg 1 [.c 12, .c 13, .blk 0, .c 75] (Xr ?_)
  obtain ⟨t16, hg15, h⟩ := of_bind h
  refine Yc 17 111 #[] ((charabancref09_conds_111_ok K _ w6  h8.old' hg15).mono ?_)
  rintro _ w12 ⟨A17, c18, rfl, hr20⟩
  refine ⟨_, rfl, ?_⟩
  have hb13 := hr20.below
  have h14 := h8.join hr20
  refine Yp 1 [(17, sV A17 t16 c18), (18, iA p1)] ?_
  have ⟨hc21, h⟩ := oz h
  refine Yo (OpE.idxOwnA 19 1 34 9 p1 h14 (by kernel_rfl) rfl (by kernel_rfl) (by kernel_rfl) hc21 (Yo (OpE.loadOwnA 20 1 9 9 p1 0 (o := (Int.toNat p1) * 1 + 0) h14 (by kernel_rfl) rfl (by kernel_rfl) (by kernel_rfl) hc21 (fun cs22 hk23 => ?_))))
  obtain rfl := hk23
  refine ⟨tS (rdD t16 p1), by kernel_rfl, ?_⟩
  have ⟨hc24, h⟩ := oz h
  refine Yt 21 sg89 (rdD t16 p1) hc24 (Yd 1 [(10, tS (sg89 ++ (rdD t16 p1)))] ?_)
  obtain rfl := sI h
  exact Xt (tS (sg89 ++ (rdD t16 p1))) ⟨rfl, h14.below⟩
 ·refine Xd 1 15 [.c 16, .blk 0, .c 75] 2 [(1, iA p1), (3, iA p3), (4, iA p4), (5, pt b2), (11, tS t10), (14, iA p2), (22, tB (p2 == 1))] (Vc 22 17 28 h (fun hc25 h => ?_) fun hc25 h => ?_)
  ·refine Xd 2 19 [.c 20, .c 25, .blk 0, .c 75] 2 [(3, iA p3), (5, pt b2), (11, tS t10), (25, tB (p4 == 0))] (Vc 25 21 24 h (fun hc26 h => ?_) fun hc26 h => ?_)
   ·refine Xg 1 [.c 22, .c 23, .c 25, .blk 0, .c 75] (Xr (Ya 26 0 25 b2 0 (.agg #[iA a0, iB a1, iB a2, iC a3, iA a4, iA a5]) h8 rfl (Yp 1 [(26, .agg #[iA a0, iB a1, iB a2, iC a3, iA a4, iA a5]), (27, iA p3)] ?_)))
    obtain ⟨t31, hg30, h⟩ := of_bind h
    refine Yc 28 108 #[.agg #[iA a0, iB a1, iB a2, iC a3, iA a4, iA a5], iA p3, tS sg86] ((charabancref09_pair_108_ok K _ w6  a0 a1 a2 a3 a4 a5 p3 sg86 h8.old' hg30).mono ?_)
    rintro _ w27 ⟨rfl, hb28⟩
    refine ⟨_, rfl, ?_⟩
    have h29 := h8.call hb28
    have ⟨hc32, h⟩ := oz h
    refine Yt 29 sg90 t31 hc32 (Yd 1 [(10, tS (sg90 ++ t31))] ?_)
    obtain rfl := sI h
    exact Xt (tS (sg90 ++ t31)) ⟨rfl, h29.below⟩
   ·refine Xg 1 [.c 25, .blk 0, .c 75] (Xq 1 26 [.c 27, .blk 0, .c 75] 1 [(3, iA p3), (11, tS t10), (30, tS t10)] ?_)
    have ⟨hc33, h⟩ := oz h
    refine Yt 31 sg23 t10 hc33 ?_
    have ⟨hc34, h⟩ := oz h
    refine Yt 32 (sg23 ++ t10) sg0 hc34 (Yp 1 [(3, iA p3), (32, tS ((sg23 ++ t10) ++ sg0)), (33, tS t10)] ?_)
    have ⟨hc35, h⟩ := oz h
    refine Yt 34 sg36 t10 hc35 (Yo (OpE.lit 35 9 [tS sg63, tS sg64, tS ((sg23 ++ t10) ++ sg0), tS (sg36 ++ t10)] 4 h8 (by kernel_rfl) (by kernel_rfl) ?_))
    intro w36 b37 h38 hb39 hn40
    refine Yp 1 [(35, .slice (some ⟨b37, 0, none⟩) (([sg63, sg64, ((sg23 ++ t10) ++ sg0), (sg36 ++ t10)] : List ByteArray).length) 4), (36, iA p3)] ?_
    have h41 := h38.boxOwn 1 rfl Rp.str ([sg63, sg64, ((sg23 ++ t10) ++ sg0), (sg36 ++ t10)] : List ByteArray) (cells_str _ _ _) (Nat.le_of_ble_eq_true (by kernel_rfl))
    have ⟨hc42, h⟩ := oz h
    refine Yo (OpE.idxOwnA 37 1 34 9 p3 h41 (by kernel_rfl) rfl (by kernel_rfl) (by kernel_rfl) hc42 (Yo (OpE.loadOwnA 38 1 9 9 p3 0 (o := (Int.toNat p3) * 1 + 0) h41 (by kernel_rfl) rfl (by kernel_rfl) (by kernel_rfl) hc42 (fun cs43 hk44 => ?_))))
    obtain rfl := hk44
    refine ⟨tS (rdD ([sg63, sg64, ((sg23 ++ t10) ++ sg0), (sg36 ++ t10)] : List ByteArray) p3), by kernel_rfl, ?_⟩
    refine Yd 1 [(10, tS (rdD ([sg63, sg64, ((sg23 ++ t10) ++ sg0), (sg36 ++ t10)] : List ByteArray) p3))] ?_
    obtain rfl := sI h
    exact Xt (tS (rdD ([sg63, sg64, ((sg23 ++ t10) ++ sg0), (sg36 ++ t10)] : List ByteArray) p3)) ⟨rfl, h41.below⟩
  ·refine Xd 1 29 [.c 30, .blk 0, .c 75] 2 [(1, iA p1), (3, iA p3), (4, iA p4), (5, pt b2), (11, tS t10), (14, iA p2), (39, tB (p2 == 2))] (Vc 39 31 34 h (fun hc45 h => ?_) fun hc45 h => ?_)
   ·refine Xg 1 [.c 32, .c 33, .blk 0, .c 75] (RunsI.any 10 (by kernel_rfl) (by kernel_rfl) (by kernel_rfl) (Kp ([] : List Nat) (World.drew w6)) ?_)
    have h47 := h8.drew
    generalize World.drew w6 = w46 at h47 ⊢
    have hS48 := Kp.refl ([] : List Nat) w46
    refine Wu 1 42 (iA p1) hS48 (Wa 6 47 0 25 b2 0 (.agg #[iA a0, iB a1, iB a2, iC a3, iA a4, iA a5]) [] h47 rfl hS48 rfl (AnyE.one 0 (by kernel_rfl) (fun w50 hu51 => ?_)))
    have h52 := h47.call hu51
    have hS53 := hS48.up hu51
    obtain ⟨t58, hg57, h⟩ := of_bind h
    refine OpE.call 41 (by kernel_rfl) 111 #[] (by kernel_rfl) ((charabancref09_conds_111_ok K _ w50  h52.old' hg57).mono ?_)
    rintro _ w54 ⟨A59, c60, rfl, hr62⟩
    refine ⟨_, rfl, ?_⟩
    have hb55 := hr62.below
    have h56 := h52.join hr62
    have hS63 := hS53.up hb55
    refine ⟨hS63, ?_⟩
    obtain ⟨t65, hg64, h⟩ := of_bind h
    refine Wc 7 48 (tS t65) 109 #[.agg #[iA a0, iB a1, iB a2, iC a3, iA a4, iA a5]] hS63 (fun w hk => charabancref09_nn_109_ok K (fun _ => False) w a0 a1 a2 a3 a4 a5 nF hg64) (AnyE.one 2 (by kernel_rfl) (fun w66 hu67 => ?_))
    have h68 := h56.call hu67
    have hS69 := hS63.up hu67
    have ⟨hc70, h⟩ := oz h
    refine OpE.idxOwnA 43 1 34 9 p1 h68 (by kernel_rfl) rfl (by kernel_rfl) (by kernel_rfl) hc70 (⟨hS69, ?_⟩)
    refine AnyE.one 3 (by kernel_rfl) (fun w72 hu73 => ?_)
    have h74 := h68.call hu73
    have hS75 := hS69.up hu73
    refine OpE.loadOwnA 44 1 9 9 p1 0 (o := (Int.toNat p1) * 1 + 0) h74 (by kernel_rfl) rfl (by kernel_rfl) (by kernel_rfl) hc70 (fun cs76 hk77 => ?_)
    obtain rfl := hk77
    refine ⟨tS (rdD t58 p1), by kernel_rfl, ?_⟩
    refine ⟨hS75, ?_⟩
    have ⟨hc79, h⟩ := oz h
    refine Wt 4 45 sg16 (rdD t58 p1) hS75 hc79 ?_
    have ⟨hc80, h⟩ := oz h
    refine Wt 5 46 (sg16 ++ (rdD t58 p1)) sg2 hS75 hc80 ?_
    have ⟨hc81, h⟩ := oz h
    refine Wt 8 49 ((sg16 ++ (rdD t58 p1)) ++ sg2) t65 hS75 hc81 (Wu 9 10 (tS (((sg16 ++ (rdD t58 p1)) ++ sg2) ++ t65)) hS75 (AnyE.done (by kernel_rfl) (fun w82 hu83 => ?_)))
    have h84 := h74.call hu83
    refine Vl [(10, tS (((sg16 ++ (rdD t58 p1)) ++ sg2) ++ t65))] ?_
    obtain rfl := sI h
    exact Xt (tS (((sg16 ++ (rdD t58 p1)) ++ sg2) ++ t65)) ⟨rfl, h84.below⟩
   ·refine Xd 1 35 [.c 36, .blk 0, .c 75] 2 [(1, iA p1), (3, iA p3), (4, iA p4), (5, pt b2), (11, tS t10), (14, iA p2), (50, tB (p2 == 3))] (Vc 50 37 40 h (fun hc85 h => ?_) fun hc85 h => ?_)
    ·refine Xg 1 [.c 38, .c 39, .blk 0, .c 75] (RunsI.any 18 (by kernel_rfl) (by kernel_rfl) (by kernel_rfl) (Kp ([] : List Nat) (World.drew w6)) ?_)
     have h87 := h8.drew
     generalize World.drew w6 = w86 at h87 ⊢
     have hS88 := Kp.refl ([] : List Nat) w86
     refine Wa 0 52 0 25 b2 0 (.agg #[iA a0, iB a1, iB a2, iC a3, iA a4, iA a5]) [] h87 rfl hS88 rfl ?_
     obtain ⟨t91, hg90, h⟩ := of_bind h
     refine Wc 1 53 (tS t91) 109 #[.agg #[iA a0, iB a1, iB a2, iC a3, iA a4, iA a5]] hS88 (fun w hk => charabancref09_nn_109_ok K (fun _ => False) w a0 a1 a2 a3 a4 a5 nF hg90) ?_
     have ⟨hc92, h⟩ := oz h
     refine Wt 2 54 sg16 t91 hS88 hc92 (Wa 3 55 0 25 b2 0 (.agg #[iA a0, iB a1, iB a2, iC a3, iA a4, iA a5]) [] h87 rfl hS88 rfl ?_)
     obtain ⟨t94, hg93, h⟩ := of_bind h
     refine Wc 4 56 (tS t94) 112 #[.agg #[iA a0, iB a1, iB a2, iC a3, iA a4, iA a5]] hS88 (fun w hk => charabancref09_n_112_ok K (fun _ => False) w a0 a1 a2 a3 a4 a5 nF hg93) ?_
     have ⟨hc95, h⟩ := oz h
     refine Wt 5 57 sg30 t94 hS88 hc95 ?_
     have ⟨hc96, h⟩ := oz h
     refine Wt 6 58 (sg30 ++ t94) sg37 hS88 hc96 (Wa 7 59 0 25 b2 0 (.agg #[iA a0, iB a1, iB a2, iC a3, iA a4, iA a5]) [] h87 rfl hS88 rfl ?_)
     obtain ⟨t98, hg97, h⟩ := of_bind h
     refine Wc 8 60 (tS t98) 112 #[.agg #[iA a0, iB a1, iB a2, iC a3, iA a4, iA a5]] hS88 (fun w hk => charabancref09_n_112_ok K (fun _ => False) w a0 a1 a2 a3 a4 a5 nF hg97) ?_
     have ⟨hc99, h⟩ := oz h
     refine Wt 9 61 sg31 t98 hS88 hc99 ?_
     have ⟨hc100, h⟩ := oz h
     refine Wt 10 62 (sg31 ++ t98) sg0 hS88 hc100 (Wu 11 63 (tS t10) hS88 ?_)
     have ⟨hc101, h⟩ := oz h
     refine Wt 12 64 sg38 t10 hS88 hc101 (Wu 14 66 (iA p1) hS88 (AnyE.one 13 (by kernel_rfl) (fun w102 hu103 => ?_)))
     have h104 := h87.call hu103
     have hS105 := hS88.up hu103
     refine OpE.lit 65 9 [tS (sg16 ++ t91), tS sg32, tS ((sg30 ++ t94) ++ sg37), tS ((sg31 ++ t98) ++ sg0), tS (sg38 ++ t10), tS sg65, tS sg66, tS sg67] 8 h104 (by kernel_rfl) (by kernel_rfl) ?_
     intro w106 b107 h108 hb109 hn110
     have hn111 := Nat.le_trans hS105.1 hn110
     have hS112 := hS105.up hb109
     refine ⟨hS112, ?_⟩
     refine AnyE.one 15 (by kernel_rfl) (fun w113 hu114 => ?_)
     have h115 := h108.call hu114
     have hS116 := hS112.up hu114
     have ⟨hc117, h⟩ := oz h
     have h118 := h115.boxOwn 1 rfl Rp.str ([(sg16 ++ t91), sg32, ((sg30 ++ t94) ++ sg37), ((sg31 ++ t98) ++ sg0), (sg38 ++ t10), sg65, sg66, sg67] : List ByteArray) (cells_str _ _ _) (Nat.le_of_ble_eq_true (by kernel_rfl))
     refine OpE.idxOwnA 67 1 34 9 p1 h118 (by kernel_rfl) rfl (by kernel_rfl) (by kernel_rfl) hc117 (⟨hS116, ?_⟩)
     refine AnyE.one 16 (by kernel_rfl) (fun w120 hu121 => ?_)
     have h122 := h118.call hu121
     have hS123 := hS116.up hu121
     refine OpE.loadOwnA 68 1 9 9 p1 0 (o := (Int.toNat p1) * 1 + 0) h122 (by kernel_rfl) rfl (by kernel_rfl) (by kernel_rfl) hc117 (fun cs124 hk125 => ?_)
     obtain rfl := hk125
     refine ⟨tS (rdD ([(sg16 ++ t91), sg32, ((sg30 ++ t94) ++ sg37), ((sg31 ++ t98) ++ sg0), (sg38 ++ t10), sg65, sg66, sg67] : List ByteArray) p1), by kernel_rfl, ?_⟩
     refine ⟨hS123, ?_⟩
     refine Wu 17 10 (tS (rdD ([(sg16 ++ t91), sg32, ((sg30 ++ t94) ++ sg37), ((sg31 ++ t98) ++ sg0), (sg38 ++ t10), sg65, sg66, sg67] : List ByteArray) p1)) hS123 (AnyE.done (by kernel_rfl) (fun w127 hu128 => ?_))
     have h129 := h122.call hu128
     refine Vl [(10, tS (rdD ([(sg16 ++ t91), sg32, ((sg30 ++ t94) ++ sg37), ((sg31 ++ t98) ++ sg0), (sg38 ++ t10), sg65, sg66, sg67] : List ByteArray) p1))] ?_
     obtain rfl := sI h
     exact Xt (tS (rdD ([(sg16 ++ t91), sg32, ((sg30 ++ t94) ++ sg37), ((sg31 ++ t98) ++ sg0), (sg38 ++ t10), sg65, sg66, sg67] : List ByteArray) p1)) ⟨rfl, h129.below⟩
    ·refine Xd 1 41 [.c 42, .blk 0, .c 75] 2 [(1, iA p1), (3, iA p3), (4, iA p4), (5, pt b2), (14, iA p2), (69, tB (p2 == 4))] (Vc 69 43 46 h (fun hc130 h => ?_) fun hc130 h => ?_)
     ·refine Xg 1 [.c 44, .c 45, .blk 0, .c 75] (RunsI.any 10 (by kernel_rfl) (by kernel_rfl) (by kernel_rfl) (Kp ([] : List Nat) (World.drew w6)) ?_)
      have h132 := h8.drew
      generalize World.drew w6 = w131 at h132 ⊢
      have hS133 := Kp.refl ([] : List Nat) w131
      refine Wu 1 72 (iA p1) hS133 (Wa 6 77 0 25 b2 0 (.agg #[iA a0, iB a1, iB a2, iC a3, iA a4, iA a5]) [] h132 rfl hS133 rfl (AnyE.one 0 (by kernel_rfl) (fun w135 hu136 => ?_)))
      have h137 := h132.call hu136
      have hS138 := hS133.up hu136
      obtain ⟨t143, hg142, h⟩ := of_bind h
      refine OpE.call 71 (by kernel_rfl) 111 #[] (by kernel_rfl) ((charabancref09_conds_111_ok K _ w135  h137.old' hg142).mono ?_)
      rintro _ w139 ⟨A144, c145, rfl, hr147⟩
      refine ⟨_, rfl, ?_⟩
      have hb140 := hr147.below
      have h141 := h137.join hr147
      have hS148 := hS138.up hb140
      refine ⟨hS148, ?_⟩
      obtain ⟨t150, hg149, h⟩ := of_bind h
      refine Wc 7 78 (tS t150) 109 #[.agg #[iA a0, iB a1, iB a2, iC a3, iA a4, iA a5]] hS148 (fun w hk => charabancref09_nn_109_ok K (fun _ => False) w a0 a1 a2 a3 a4 a5 nF hg149) (AnyE.one 2 (by kernel_rfl) (fun w151 hu152 => ?_))
      have h153 := h141.call hu152
      have hS154 := hS148.up hu152
      have ⟨hc155, h⟩ := oz h
      refine OpE.idxOwnA 73 1 34 9 p1 h153 (by kernel_rfl) rfl (by kernel_rfl) (by kernel_rfl) hc155 (⟨hS154, ?_⟩)
      refine AnyE.one 3 (by kernel_rfl) (fun w157 hu158 => ?_)
      have h159 := h153.call hu158
      have hS160 := hS154.up hu158
      refine OpE.loadOwnA 74 1 9 9 p1 0 (o := (Int.toNat p1) * 1 + 0) h159 (by kernel_rfl) rfl (by kernel_rfl) (by kernel_rfl) hc155 (fun cs161 hk162 => ?_)
      obtain rfl := hk162
      refine ⟨tS (rdD t143 p1), by kernel_rfl, ?_⟩
      refine ⟨hS160, ?_⟩
      have ⟨hc164, h⟩ := oz h
      refine Wt 4 75 sg24 (rdD t143 p1) hS160 hc164 ?_
      have ⟨hc165, h⟩ := oz h
      refine Wt 5 76 (sg24 ++ (rdD t143 p1)) sg2 hS160 hc165 ?_
      have ⟨hc166, h⟩ := oz h
      refine Wt 8 79 ((sg24 ++ (rdD t143 p1)) ++ sg2) t150 hS160 hc166 (Wu 9 10 (tS (((sg24 ++ (rdD t143 p1)) ++ sg2) ++ t150)) hS160 (AnyE.done (by kernel_rfl) (fun w167 hu168 => ?_)))
      have h169 := h159.call hu168
      refine Vl [(10, tS (((sg24 ++ (rdD t143 p1)) ++ sg2) ++ t150))] ?_
      obtain rfl := sI h
      exact Xt (tS (((sg24 ++ (rdD t143 p1)) ++ sg2) ++ t150)) ⟨rfl, h169.below⟩
     ·refine Xd 1 47 [.c 48, .blk 0, .c 75] 2 [(1, iA p1), (3, iA p3), (4, iA p4), (5, pt b2), (14, iA p2), (80, tB (p2 == 5))] (Vc 80 49 68 h (fun hc170 h => ?_) fun hc170 h => ?_)
      ·refine Xd 2 51 [.c 52, .c 57, .blk 0, .c 75] 2 [(3, iA p3), (5, pt b2), (83, tB (p4 == 0))] (Vc 83 53 56 h (fun hc171 h => ?_) fun hc171 h => ?_)
       ·refine Xg 1 [.c 54, .c 55, .c 57, .blk 0, .c 75] (Xr (Ya 84 0 25 b2 0 (.agg #[iA a0, iB a1, iB a2, iC a3, iA a4, iA a5]) h8 rfl (Yp 1 [(84, .agg #[iA a0, iB a1, iB a2, iC a3, iA a4, iA a5]), (85, iA p3)] ?_)))
        obtain ⟨t176, hg175, h⟩ := of_bind h
        refine Yc 86 108 #[.agg #[iA a0, iB a1, iB a2, iC a3, iA a4, iA a5], iA p3, tS sg86] ((charabancref09_pair_108_ok K _ w6  a0 a1 a2 a3 a4 a5 p3 sg86 h8.old' hg175).mono ?_)
        rintro _ w172 ⟨rfl, hb173⟩
        refine ⟨_, rfl, ?_⟩
        have h174 := h8.call hb173
        have ⟨hc177, h⟩ := oz h
        refine Yt 87 sg91 t176 hc177 (Yd 1 [(10, tS (sg91 ++ t176))] ?_)
        obtain rfl := sI h
        exact Xt (tS (sg91 ++ t176)) ⟨rfl, h174.below⟩
       ·refine Xg 1 [.c 57, .blk 0, .c 75] (Xd 2 59 [.c 60, .c 65, .blk 0, .c 75] 2 [(5, pt b2), (89, tB (p3 == 0))] (Vc 89 61 64 h (fun hc178 h => ?_) fun hc178 h => ?_))
        ·refine Xg 1 [.c 62, .c 63, .c 65, .blk 0, .c 75] (Xr (Ya 90 0 25 b2 0 (.agg #[iA a0, iB a1, iB a2, iC a3, iA a4, iA a5]) h8 rfl ?_))
         obtain ⟨t183, hg182, h⟩ := of_bind h
         refine Yc 91 109 #[.agg #[iA a0, iB a1, iB a2, iC a3, iA a4, iA a5]] ((charabancref09_nn_109_ok K _ w6  a0 a1 a2 a3 a4 a5 h8.old' hg182).mono ?_)
         rintro _ w179 ⟨rfl, hb180⟩
         refine ⟨_, rfl, ?_⟩
         have h181 := h8.call hb180
         have ⟨hc184, h⟩ := oz h
         refine Yt 92 sg24 t183 hc184 (Yd 1 [(10, tS (sg24 ++ t183))] ?_)
         obtain rfl := sI h
         exact Xt (tS (sg24 ++ t183)) ⟨rfl, h181.below⟩
        ·refine Xg 1 [.c 65, .blk 0, .c 75] (Xd 1 66 [.c 67, .blk 0, .c 75] 1 [(10, tS sg32)] ?_)
         obtain rfl := sI h
         exact Xt (tS sg32) ⟨rfl, h8.below⟩
      ·refine Xd 1 69 [.c 70, .blk 0, .c 75] 2 [(1, iA p1), (5, pt b2), (93, tB (p2 == 6))] (Vc 93 71 74 h (fun hc185 h => ?_) fun hc185 h => ?_)
       ·refine Xg 1 [.c 72, .c 73, .blk 0, .c 75] (RunsI.any 8 (by kernel_rfl) (by kernel_rfl) (by kernel_rfl) (Kp ([] : List Nat) (World.drew w6)) ?_)
        have h187 := h8.drew
        generalize World.drew w6 = w186 at h187 ⊢
        have hS188 := Kp.refl ([] : List Nat) w186
        refine Wu 1 96 (iA p1) hS188 (Wa 4 99 0 25 b2 0 (.agg #[iA a0, iB a1, iB a2, iC a3, iA a4, iA a5]) [] h187 rfl hS188 rfl (AnyE.one 0 (by kernel_rfl) (fun w190 hu191 => ?_)))
        have h192 := h187.call hu191
        have hS193 := hS188.up hu191
        obtain ⟨t198, hg197, h⟩ := of_bind h
        refine OpE.call 95 (by kernel_rfl) 72 #[] (by kernel_rfl) ((charabancref09_sums_72_ok K _ w190  h192.old' hg197).mono ?_)
        rintro _ w194 ⟨A199, c200, rfl, hr202⟩
        refine ⟨_, rfl, ?_⟩
        have hb195 := hr202.below
        have h196 := h192.join hr202
        have hS203 := hS193.up hb195
        refine ⟨hS203, ?_⟩
        obtain ⟨t205, hg204, h⟩ := of_bind h
        refine Wc 5 100 (tS t205) 112 #[.agg #[iA a0, iB a1, iB a2, iC a3, iA a4, iA a5]] hS203 (fun w hk => charabancref09_n_112_ok K (fun _ => False) w a0 a1 a2 a3 a4 a5 nF hg204) (AnyE.one 2 (by kernel_rfl) (fun w206 hu207 => ?_))
        have h208 := h196.call hu207
        have hS209 := hS203.up hu207
        have ⟨hc210, h⟩ := oz h
        refine OpE.idxOwnA 97 1 34 9 p1 h208 (by kernel_rfl) rfl (by kernel_rfl) (by kernel_rfl) hc210 (⟨hS209, ?_⟩)
        refine AnyE.one 3 (by kernel_rfl) (fun w212 hu213 => ?_)
        have h214 := h208.call hu213
        have hS215 := hS209.up hu213
        refine OpE.loadOwnA 98 1 9 9 p1 0 (o := (Int.toNat p1) * 1 + 0) h214 (by kernel_rfl) rfl (by kernel_rfl) (by kernel_rfl) hc210 (fun cs216 hk217 => ?_)
        obtain rfl := hk217
        refine ⟨tS (rdD t198 p1), by kernel_rfl, ?_⟩
        refine ⟨hS215, ?_⟩
        have ⟨hc219, h⟩ := oz h
        refine Wt 6 101 (rdD t198 p1) t205 hS215 hc219 (Wu 7 10 (tS ((rdD t198 p1) ++ t205)) hS215 (AnyE.done (by kernel_rfl) (fun w220 hu221 => ?_)))
        have h222 := h214.call hu221
        refine Vl [(10, tS ((rdD t198 p1) ++ t205))] ?_
        obtain rfl := sI h
        exact Xt (tS ((rdD t198 p1) ++ t205)) ⟨rfl, h222.below⟩
       ·refine Xg 1 [.blk 0, .c 75] (Xq 2 76 [.c 77] 2 [(103, iA (wA (8 * p1)))] ?_)
        obtain ⟨t227, hg226, h⟩ := of_bind h
        refine Yc 104 43 #[iA (wA (8 * p1)), iA 2] ((charabancref09_Hex_43_ok K _ w6  (wA (8 * p1)) 2 h8.old' hg226).mono ?_)
        rintro _ w223 ⟨rfl, hb224⟩
        refine ⟨_, rfl, ?_⟩
        have h225 := h8.call hb224
        have ⟨hc228, h⟩ := oz h
        refine Yt 105 sg92 t227 hc228 (Yd 1 [(10, tS (sg92 ++ t227))] ?_)
        obtain rfl := sI h
        exact Xt (tS (sg92 ++ t227)) ⟨rfl, h225.below⟩
end

section
abbrev charabancref09_Show_42.post := pS
def charabancref09_Show_42.f (K : Nat) (p0_0 : Int) (p0_1 : Int) (p0_2 : Int) (p0_3 : Int) (p0_4 : Int) (p0_5 : Int) : Option ByteArray := (charabancref08_Fields_27.f K p0_1).bind fun yt10 => Let (fun (t17 : Bool) => cond t17 ((charabancref09_bits_68.f K p0_0 p0_1 p0_2 p0_3 p0_4 p0_5 yt10.1 yt10.2.1 yt10.2.2.1).bind fun t28 => some t28) (cond (p0_0 == 2) ((charabancref09_ed_69.f K p0_0 p0_1 p0_2 p0_3 p0_4 p0_5 yt10.1 yt10.2.1 yt10.2.2.1 yt10.2.2.2.1 yt10.2.2.2.2).bind fun t34 => some t34) (Let (fun (t37 : Bool) => cond t37 (cond (yt10.1 == 0) ((charabancref09_zero_70.f K p0_0 p0_1 p0_2 p0_3 p0_4 p0_5 yt10.2.1 yt10.2.2.1 yt10.2.2.2.1 yt10.2.2.2.2).bind fun t49 => some t49) (cond (yt10.1 == 1) (Let (fun (t52 : Bool) => cond t52 (some (⟨#[104, 97, 108, 116]⟩ : ByteArray)) ((charabancref09_reg_71.f K p0_0 p0_1 p0_2 p0_3 p0_4 p0_5 yt10.2.1).bind fun t64 => cond (mayCat (⟨#[108, 100, 32]⟩ : ByteArray).size t64.size) (cond (mayCat ((⟨#[108, 100, 32]⟩ : ByteArray) ++ t64).size (⟨#[44]⟩ : ByteArray).size) ((charabancref09_reg_71.f K p0_0 p0_1 p0_2 p0_3 p0_4 p0_5 yt10.2.2.1).bind fun t68 => cond (mayCat (((⟨#[108, 100, 32]⟩ : ByteArray) ++ t64) ++ (⟨#[44]⟩ : ByteArray)).size t68.size) (some ((((⟨#[108, 100, 32]⟩ : ByteArray) ++ t64) ++ (⟨#[44]⟩ : ByteArray)) ++ t68)) none) none) none)) (fun j55 => cond (yt10.2.1 == 6) (j55 (yt10.2.2.1 == 6)) (j55 false))) (cond (yt10.1 == 2) ((charabancref09_sums_72.f K).bind fun t86 => (charabancref09_reg_71.f K p0_0 p0_1 p0_2 p0_3 p0_4 p0_5 yt10.2.2.1).bind fun t93 => cond (inR yt10.2.1 t86.length) (cond (mayCat (rdD t86 yt10.2.1).size t93.size) (some ((rdD t86 yt10.2.1) ++ t93)) none) none) ((charabancref09_three_73.f K p0_0 p0_1 p0_2 p0_3 p0_4 p0_5 yt10.2.1 yt10.2.2.1 yt10.2.2.2.1 yt10.2.2.2.2).bind fun t115 => some t115)))) (some (⟨#[63]⟩ : ByteArray))) (fun j40 => cond (p0_0 == 0) (j40 true) (cond (p0_0 == 3) (j40 true) (j40 (p0_0 == 4))))))) (fun j20 => cond (p0_0 == 1) (j20 true) (cond (p0_0 == 5) (j20 true) (j20 (p0_0 == 6))))
theorem charabancref09_Show_42_ok (K : Nat) (M0 : Nat → Prop) (w0 : World) (a0 : Int) (a1 : Int) (a2 : Int) (a3 : Int) (a4 : Int) (a5 : Int) (ho : ∀ b, M0 b → b < w0.heap.size) {r : ByteArray} (h : charabancref09_Show_42.f K a0 a1 a2 a3 a4 a5 = some r) :
  Calls Tryz.prog 42 #[.agg #[iA a0, iB a1, iB a2, iC a3, iA a4, iA a5]] w0 (charabancref09_Show_42.post M0 w0 r) := by
 unfold charabancref09_Show_42.f at h
 have h0 : Holds M0 w0 w0 [] := Holds.start ho
 refine calls_of F42 rfl [.agg #[iA a0, iB a1, iB a2, iC a3, iA a4, iA a5]] (by kernel_rfl) (Xg 1 [.c 1, .c 2] (Xr (Yx 1 25 [iA a0, iB a1, iB a2, iC a3, iA a4, iA a5] h0 ?_)))
 intro w1 b2 h3 hb4 hn5
 refine Yp 1 [(1, pt b2)] (Zy 1 3 [.c 4] 1 [1, 9] [(9, pu b2 1)] (Ya 10 0 5 b2 1 (iB a1) h3 rfl ?_))
 obtain ⟨⟨t10, t11, t12, t13, t14⟩, hg9, h⟩ := of_bind h
 dsimp only at h
 refine Yc 11 27 #[iB a1] ((charabancref08_Fields_27_ok K _ w1  a1 h3.old' hg9).mono ?_)
 rintro _ w6 ⟨rfl, hb7⟩
 refine ⟨_, rfl, ?_⟩
 have h8 := h3.call hb7
 refine Yp 11 [(1, pt b2), (3, iA t10), (4, iA t11), (5, iA t12), (6, iA t13), (7, iA t14)] (Zy 2 6 [.c 7, .c 43] 1 [1, 3, 4, 5, 6, 7, 17] [(17, pt b2)] (Ya 18 0 3 b2 0 (iA a0) h8 rfl (Zy 3 10 [.c 11, .c 18, .blk 0, .c 43] 2 [1, 3, 4, 5, 6, 7, 18, 19] [(18, iA a0), (19, tB (a0 == 1))] (Ye ?_))))
 obtain ⟨j20, hJ21, h⟩ := of_let h
 have hj22 : ∀ (t17 : Bool) (w19 : World), j20 t17 = some r → Holds M0 w0 w19 [box b2 25 [iA a0, iB a1, iB a2, iC a3, iA a4, iA a5]] → RunsI F42 [.c 18, .blk 0, .c 43] [(1, pt b2), (3, iA t10), (4, iA t11), (5, iA t12), (6, iA t13), (7, iA t14), (18, iA a0), (19, tB t17)] w19 (charabancref09_Show_42.post M0 w0 r) := by
  intro t17 w19 h h18
  rw [hJ21] at h
  clear hJ21
  dsimp only at h
  refine Vc 19 19 22 h (fun hc23 h => ?_) fun hc23 h => ?_
  ·refine Xg 1 [.c 20, .c 21, .blk 0, .c 43] (Xr (Ya 23 0 25 b2 0 (.agg #[iA a0, iB a1, iB a2, iC a3, iA a4, iA a5]) h18 rfl (Yp 3 [(23, .agg #[iA a0, iB a1, iB a2, iC a3, iA a4, iA a5]), (24, iA t10), (25, iA t11), (26, iA t12)] ?_)))
   obtain ⟨t28, hg27, h⟩ := of_bind h
   refine Yc 27 68 #[.agg #[iA a0, iB a1, iB a2, iC a3, iA a4, iA a5], iA t10, iA t11, iA t12] ((charabancref09_bits_68_ok K _ w19  a0 a1 a2 a3 a4 a5 t10 t11 t12 h18.old' hg27).mono ?_)
   rintro _ w24 ⟨rfl, hb25⟩
   refine ⟨_, rfl, ?_⟩
   have h26 := h18.call hb25
   refine Yd 1 [(2, tS t28)] ?_
   obtain rfl := sI h
   exact Xt (tS t28) ⟨rfl, h26.below⟩
  ·refine Xd 1 23 [.c 24, .blk 0, .c 43] 2 [(1, pt b2), (3, iA t10), (4, iA t11), (5, iA t12), (6, iA t13), (7, iA t14), (18, iA a0), (28, tB (a0 == 2))] (Vc 28 25 28 h (fun hc29 h => ?_) fun hc29 h => ?_)
   ·refine Xg 1 [.c 26, .c 27, .blk 0, .c 43] (Xr (Ya 30 0 25 b2 0 (.agg #[iA a0, iB a1, iB a2, iC a3, iA a4, iA a5]) h18 rfl (Yp 5 [(30, .agg #[iA a0, iB a1, iB a2, iC a3, iA a4, iA a5]), (31, iA t10), (32, iA t11), (33, iA t12), (34, iA t13), (35, iA t14)] ?_)))
    obtain ⟨t34, hg33, h⟩ := of_bind h
    refine Yc 36 69 #[.agg #[iA a0, iB a1, iB a2, iC a3, iA a4, iA a5], iA t10, iA t11, iA t12, iA t13, iA t14] ((charabancref09_ed_69_ok K _ w19  a0 a1 a2 a3 a4 a5 t10 t11 t12 t13 t14 h18.old' hg33).mono ?_)
    rintro _ w30 ⟨rfl, hb31⟩
    refine ⟨_, rfl, ?_⟩
    have h32 := h18.call hb31
    refine Yd 1 [(2, tS t34)] ?_
    obtain rfl := sI h
    exact Xt (tS t34) ⟨rfl, h32.below⟩
   ·refine Xd 2 30 [.c 31, .c 38, .blk 0, .c 43] 2 [(1, pt b2), (3, iA t10), (4, iA t11), (5, iA t12), (6, iA t13), (7, iA t14), (18, iA a0), (37, tB (a0 == 0))] ?_
    obtain ⟨j40, hJ41, h⟩ := of_let h
    have hj42 : ∀ (t37 : Bool) (w39 : World), j40 t37 = some r → Holds M0 w0 w39 [box b2 25 [iA a0, iB a1, iB a2, iC a3, iA a4, iA a5]] → RunsI F42 [.c 38, .blk 0, .c 43] [(1, pt b2), (3, iA t10), (4, iA t11), (5, iA t12), (6, iA t13), (7, iA t14), (37, tB t37)] w39 (charabancref09_Show_42.post M0 w0 r) := by
     intro t37 w39 h h38
     rw [hJ41] at h
     clear hJ41
     dsimp only at h
     refine Vc 37 39 40 h (fun hc43 h => ?_) fun hc43 h => ?_
     ·refine Xg 1 [.blk 0, .c 43] (Xq 3 45 [.c 46, .c 74] 1 [(1, pt b2), (4, iA t11), (5, iA t12), (6, iA t13), (7, iA t14), (41, iA t10)] (Zy 2 48 [.c 49, .blk 1, .c 74] 2 [1, 4, 5, 6, 7, 41, 42] [(42, tB (t10 == 0))] (Ye (Vc 42 50 53 h (fun hc44 h => ?_) fun hc44 h => ?_))))
      ·refine Xg 1 [.c 51, .c 52, .blk 1, .c 74] (Xr (Ya 44 0 25 b2 0 (.agg #[iA a0, iB a1, iB a2, iC a3, iA a4, iA a5]) h38 rfl (Yp 4 [(44, .agg #[iA a0, iB a1, iB a2, iC a3, iA a4, iA a5]), (45, iA t11), (46, iA t12), (47, iA t13), (48, iA t14)] ?_)))
       obtain ⟨t49, hg48, h⟩ := of_bind h
       refine Yc 49 70 #[.agg #[iA a0, iB a1, iB a2, iC a3, iA a4, iA a5], iA t11, iA t12, iA t13, iA t14] ((charabancref09_zero_70_ok K _ w39  a0 a1 a2 a3 a4 a5 t11 t12 t13 t14 h38.old' hg48).mono ?_)
       rintro _ w45 ⟨rfl, hb46⟩
       refine ⟨_, rfl, ?_⟩
       have h47 := h38.call hb46
       refine Yd 1 [(2, tS t49)] ?_
       obtain rfl := sI h
       exact Xt (tS t49) ⟨rfl, h47.below⟩
      ·refine Xd 1 54 [.c 55, .blk 1, .c 74] 2 [(1, pt b2), (4, iA t11), (5, iA t12), (6, iA t13), (7, iA t14), (41, iA t10), (50, tB (t10 == 1))] (Vc 50 56 67 h (fun hc50 h => ?_) fun hc50 h => ?_)
       ·refine Xq 2 58 [.c 59, .c 64, .blk 1, .c 74] 3 [(1, pt b2), (4, iA t11), (5, iA t12), (54, tB (t11 == 6))] ?_
        obtain ⟨j55, hJ56, h⟩ := of_let h
        have hj57 : ∀ (t52 : Bool) (w54 : World), j55 t52 = some r → Holds M0 w0 w54 [box b2 25 [iA a0, iB a1, iB a2, iC a3, iA a4, iA a5]] → RegI F42 58 [.c 59, .c 64, .blk 1, .c 74] 6 [(1, pt b2), (4, iA t11), (5, iA t12), (57, tB t52)] w54 (charabancref09_Show_42.post M0 w0 r) := by
         intro t52 w54 h h53
         rw [hJ56] at h
         clear hJ56
         dsimp only at h
         refine Ye (Vc 57 60 63 h (fun hc58 h => ?_) fun hc58 h => ?_)
         ·refine Xd 1 61 [.c 62, .c 64, .blk 1, .c 74] 1 [(2, tS (⟨#[104, 97, 108, 116]⟩ : ByteArray))] ?_
          obtain rfl := sI h
          exact Xt (tS (⟨#[104, 97, 108, 116]⟩ : ByteArray)) ⟨rfl, h53.below⟩
         ·refine Xg 1 [.c 64, .blk 1, .c 74] (Xg 1 [.c 65, .c 66, .blk 1, .c 74] (RunsI.any 10 (by kernel_rfl) (by kernel_rfl) (by kernel_rfl) (Kp ([] : List Nat) (World.drew w54)) ?_))
          have h60 := h53.drew
          generalize World.drew w54 = w59 at h60 ⊢
          have hS61 := Kp.refl ([] : List Nat) w59
          refine Wa 0 58 0 25 b2 0 (.agg #[iA a0, iB a1, iB a2, iC a3, iA a4, iA a5]) [] h60 rfl hS61 rfl (Wu 1 59 (iA t11) hS61 ?_)
          obtain ⟨t64, hg63, h⟩ := of_bind h
          refine Wc 2 60 (tS t64) 71 #[.agg #[iA a0, iB a1, iB a2, iC a3, iA a4, iA a5], iA t11] hS61 (fun w hk => charabancref09_reg_71_ok K (fun _ => False) w a0 a1 a2 a3 a4 a5 t11 nF hg63) ?_
          have ⟨hc65, h⟩ := oz h
          refine Wt 3 61 sg1 t64 hS61 hc65 ?_
          have ⟨hc66, h⟩ := oz h
          refine Wt 4 62 (sg1 ++ t64) sg2 hS61 hc66 (Wa 5 63 0 25 b2 0 (.agg #[iA a0, iB a1, iB a2, iC a3, iA a4, iA a5]) [] h60 rfl hS61 rfl (Wu 6 64 (iA t12) hS61 ?_))
          obtain ⟨t68, hg67, h⟩ := of_bind h
          refine Wc 7 65 (tS t68) 71 #[.agg #[iA a0, iB a1, iB a2, iC a3, iA a4, iA a5], iA t12] hS61 (fun w hk => charabancref09_reg_71_ok K (fun _ => False) w a0 a1 a2 a3 a4 a5 t12 nF hg67) ?_
          have ⟨hc69, h⟩ := oz h
          refine Wt 8 66 ((sg1 ++ t64) ++ sg2) t68 hS61 hc69 (Wu 9 2 (tS (((sg1 ++ t64) ++ sg2) ++ t68)) hS61 (AnyE.done (by kernel_rfl) (fun w70 hu71 => ?_)))
          have h72 := h60.call hu71
          refine Vl [(2, tS (((sg1 ++ t64) ++ sg2) ++ t68))] ?_
          obtain rfl := sI h
          exact Xt (tS (((sg1 ++ t64) ++ sg2) ++ t68)) ⟨rfl, h72.below⟩
        clear hJ56
        rcases oc h with ⟨hc51, h⟩ | ⟨hc51, h⟩
        ·refine Yf 54 true hc51 (Zp 3 [1, 4, 5, 57] [(57, tB (t12 == 6))] (Ul [(1, pt b2), (4, iA t11), (5, iA t12), (57, tB (t12 == 6))] ?_))
         exact hj57 (t12 == 6) w39 h (h38.pk [0])
        ·refine Yf 54 false hc51 (Zp 3 [1, 4, 5, 57] [(57, tB false)] (Ul [(1, pt b2), (4, iA t11), (5, iA t12), (57, tB false)] ?_))
         exact hj57 false w39 h (h38.pk [0])
       ·refine Xd 1 68 [.c 69, .blk 1, .c 74] 2 [(1, pt b2), (4, iA t11), (5, iA t12), (6, iA t13), (7, iA t14), (67, tB (t10 == 2))] (Vc 67 70 73 h (fun hc73 h => ?_) fun hc73 h => ?_)
        ·refine Xg 1 [.c 71, .c 72, .blk 1, .c 74] (RunsI.any 9 (by kernel_rfl) (by kernel_rfl) (by kernel_rfl) (Kp ([] : List Nat) (World.drew w39)) ?_)
         have h75 := h38.drew
         generalize World.drew w39 = w74 at h75 ⊢
         have hS76 := Kp.refl ([] : List Nat) w74
         refine Wu 1 70 (iA t11) hS76 (Wa 4 73 0 25 b2 0 (.agg #[iA a0, iB a1, iB a2, iC a3, iA a4, iA a5]) [] h75 rfl hS76 rfl (Wu 5 74 (iA t12) hS76 (AnyE.one 0 (by kernel_rfl) (fun w78 hu79 => ?_))))
         have h80 := h75.call hu79
         have hS81 := hS76.up hu79
         obtain ⟨t86, hg85, h⟩ := of_bind h
         refine OpE.call 69 (by kernel_rfl) 72 #[] (by kernel_rfl) ((charabancref09_sums_72_ok K _ w78  h80.old' hg85).mono ?_)
         rintro _ w82 ⟨A87, c88, rfl, hr90⟩
         refine ⟨_, rfl, ?_⟩
         have hb83 := hr90.below
         have h84 := h80.join hr90
         have hS91 := hS81.up hb83
         refine ⟨hS91, ?_⟩
         obtain ⟨t93, hg92, h⟩ := of_bind h
         refine Wc 6 75 (tS t93) 71 #[.agg #[iA a0, iB a1, iB a2, iC a3, iA a4, iA a5], iA t12] hS91 (fun w hk => charabancref09_reg_71_ok K (fun _ => False) w a0 a1 a2 a3 a4 a5 t12 nF hg92) (AnyE.one 2 (by kernel_rfl) (fun w94 hu95 => ?_))
         have h96 := h84.call hu95
         have hS97 := hS91.up hu95
         have ⟨hc98, h⟩ := oz h
         refine OpE.idxOwnA 71 1 34 9 t11 h96 (by kernel_rfl) rfl (by kernel_rfl) (by kernel_rfl) hc98 (⟨hS97, ?_⟩)
         refine AnyE.one 3 (by kernel_rfl) (fun w100 hu101 => ?_)
         have h102 := h96.call hu101
         have hS103 := hS97.up hu101
         refine OpE.loadOwnA 72 1 9 9 t11 0 (o := (Int.toNat t11) * 1 + 0) h102 (by kernel_rfl) rfl (by kernel_rfl) (by kernel_rfl) hc98 (fun cs104 hk105 => ?_)
         obtain rfl := hk105
         refine ⟨tS (rdD t86 t11), by kernel_rfl, ?_⟩
         refine ⟨hS103, ?_⟩
         have ⟨hc107, h⟩ := oz h
         refine Wt 7 76 (rdD t86 t11) t93 hS103 hc107 (Wu 8 2 (tS ((rdD t86 t11) ++ t93)) hS103 (AnyE.done (by kernel_rfl) (fun w108 hu109 => ?_)))
         have h110 := h102.call hu109
         refine Vl [(2, tS ((rdD t86 t11) ++ t93))] ?_
         obtain rfl := sI h
         exact Xt (tS ((rdD t86 t11) ++ t93)) ⟨rfl, h110.below⟩
        ·refine Xg 1 [.blk 1, .c 74] (Xg 2 [.c 75, .c 76] (Xr (Ya 77 0 25 b2 0 (.agg #[iA a0, iB a1, iB a2, iC a3, iA a4, iA a5]) h38 rfl (Yp 4 [(77, .agg #[iA a0, iB a1, iB a2, iC a3, iA a4, iA a5]), (78, iA t11), (79, iA t12), (80, iA t13), (81, iA t14)] ?_))))
         obtain ⟨t115, hg114, h⟩ := of_bind h
         refine Yc 82 73 #[.agg #[iA a0, iB a1, iB a2, iC a3, iA a4, iA a5], iA t11, iA t12, iA t13, iA t14] ((charabancref09_three_73_ok K _ w39  a0 a1 a2 a3 a4 a5 t11 t12 t13 t14 h38.old' hg114).mono ?_)
         rintro _ w111 ⟨rfl, hb112⟩
         refine ⟨_, rfl, ?_⟩
         have h113 := h38.call hb112
         refine Yd 1 [(2, tS t115)] ?_
         obtain rfl := sI h
         exact Xt (tS t115) ⟨rfl, h113.below⟩
     ·refine Xd 1 41 [.c 42, .blk 0, .c 43] 1 [(2, tS (⟨#[63]⟩ : ByteArray))] ?_
      obtain rfl := sI h
      exact Xt (tS (⟨#[63]⟩ : ByteArray)) ⟨rfl, h38.below⟩
    clear hJ41
    refine Vc 37 32 33 h (fun hc35 h => ?_) fun hc35 h => ?_
    ·refine Xg 1 [.c 38, .blk 0, .c 43] (Vl [(1, pt b2), (3, iA t10), (4, iA t11), (5, iA t12), (6, iA t13), (7, iA t14), (37, tB true)] ?_)
     exact hj42 true w19 h (h18.pk [0])
    ·refine Xd 1 34 [.c 35, .c 38, .blk 0, .c 43] 2 [(1, pt b2), (3, iA t10), (4, iA t11), (5, iA t12), (6, iA t13), (7, iA t14), (18, iA a0), (37, tB (a0 == 3))] (Vc 37 36 37 h (fun hc36 h => ?_) fun hc36 h => ?_)
     ·refine Xg 1 [.c 38, .blk 0, .c 43] (Vl [(1, pt b2), (3, iA t10), (4, iA t11), (5, iA t12), (6, iA t13), (7, iA t14), (37, tB true)] ?_)
      exact hj42 true w19 h (h18.pk [0])
     ·refine Xr (Yd 2 [(1, pt b2), (3, iA t10), (4, iA t11), (5, iA t12), (6, iA t13), (7, iA t14), (37, tB (a0 == 4))] (Vl [(1, pt b2), (3, iA t10), (4, iA t11), (5, iA t12), (6, iA t13), (7, iA t14), (37, tB (a0 == 4))] ?_))
      exact hj42 (a0 == 4) w19 h (h18.pk [0])
 clear hJ21
 refine Vc 19 12 13 h (fun hc15 h => ?_) fun hc15 h => ?_
 ·refine Xg 1 [.c 18, .blk 0, .c 43] (Vl [(1, pt b2), (3, iA t10), (4, iA t11), (5, iA t12), (6, iA t13), (7, iA t14), (18, iA a0), (19, tB true)] ?_)
  exact hj22 true w6 h (h8.pk [0])
 ·refine Xd 1 14 [.c 15, .c 18, .blk 0, .c 43] 2 [(1, pt b2), (3, iA t10), (4, iA t11), (5, iA t12), (6, iA t13), (7, iA t14), (18, iA a0), (19, tB (a0 == 5))] (Vc 19 16 17 h (fun hc16 h => ?_) fun hc16 h => ?_)
  ·refine Xg 1 [.c 18, .blk 0, .c 43] (Vl [(1, pt b2), (3, iA t10), (4, iA t11), (5, iA t12), (6, iA t13), (7, iA t14), (18, iA a0), (19, tB true)] ?_)
   exact hj22 true w6 h (h8.pk [0])
  ·refine Xr (Yd 2 [(1, pt b2), (3, iA t10), (4, iA t11), (5, iA t12), (6, iA t13), (7, iA t14), (18, iA a0), (19, tB (a0 == 6))] (Vl [(1, pt b2), (3, iA t10), (4, iA t11), (5, iA t12), (6, iA t13), (7, iA t14), (18, iA a0), (19, tB (a0 == 6))] ?_))
   exact hj22 (a0 == 6) w6 h (h8.pk [0])
end

section
def charabancref34_Lines_17.post (M0 : Nat → Prop) (w0 : World) (r : (List ByteArray)) : Ending → World → Prop := fun e w => ∃ (A1 : Option Addr) (c1 : Nat), e = .returned (.slice A1 r.length c1) ∧ Holds M0 w0 w [own Rp.str 9 (.slice A1 r.length c1) r]
def charabancref34_Lines_17.l0 (K : Nat) (p0 : List (Int × Int)) (p1 : Int) (p2 : Int) (t42 : Int) (t45 : List ByteArray) (t46 : Int) (t48 : Int) (t49 : Int) (t50 : Int) (t51 : Int) (t52 : Int) (t53 : Int) (t56 : List Int) (t57 : Bool) : Nat → ByteArray → Option ByteArray
 | 0, _ => none
 | k + 1, t58 => cond (decide ((t58.size : Int) < 8)) (cond (mayCat t58.size (⟨#[32]⟩ : ByteArray).size) (charabancref34_Lines_17.l0 K p0 p1 p2 t42 t45 t46 t48 t49 t50 t51 t52 t53 t56 t57 k (t58 ++ (⟨#[32]⟩ : ByteArray))) none) (some t58)
theorem charabancref34_Lines_17.l0_ok (K : Nat) (M0 : Nat → Prop) (w0 : World) (pA0 : Option Addr) (pc0 : Nat) (p0 : List (Int × Int)) (p1 : Int) (p2 : Int) (t42 : Int) (t45 : List ByteArray) (t46 : Int) (t48 : Int) (t49 : Int) (t50 : Int) (t51 : Int) (t52 : Int) (t53 : Int) (t56 : List Int) (t57 : Bool) (A43 : Option Addr) (c44 : Nat) (b47 : Nat) (A54 : Option Addr) (c55 : Nat) (R : Ending → World → Prop) (x : ByteArray) (hk0 : ∀ (t61 : ByteArray) (w1 : World), x = t61 → Holds M0 w0 w1 [sl (Rp.pair rC rB) (sV pA0 p0 pc0) p0, own Rp.str 9 (sV A43 t45 c44) t45, box b47 25 [iA t48, iB t49, iB t50, iC t51, iA t52, iA t53], own rB 5 (sV A54 t56 c55) t56] → RunsI F17 [.c 32, .blk 1, .c 43, .lp 9, .blk 0, .c 44] [(0, sV pA0 p0 pc0), (1, iC t42), (2, iA p2), (7, sV A43 t45 c44), (8, iA t46), (9, pt b47), (10, sV A54 t56 c55), (11, tB t57), (12, tS t61)] w1 R) :
  ∀ (k : Nat) (t58 : ByteArray) (w : World), charabancref34_Lines_17.l0 K p0 p1 p2 t42 t45 t46 t48 t49 t50 t51 t52 t53 t56 t57 k t58 = some x → Holds M0 w0 w [sl (Rp.pair rC rB) (sV pA0 p0 pc0) p0, own Rp.str 9 (sV A43 t45 c44) t45, box b47 25 [iA t48, iB t49, iB t50, iC t51, iA t52, iA t53], own rB 5 (sV A54 t56 c55) t56] → RunsI F17 [.c 24, .lp 24, .blk 2, .c 32, .blk 1, .c 43, .lp 9, .blk 0, .c 44] [(0, sV pA0 p0 pc0), (1, iC t42), (2, iA p2), (7, sV A43 t45 c44), (8, iA t46), (9, pt b47), (10, sV A54 t56 c55), (11, tB t57), (12, tS t58)] w R := by
 intro k
 induction k with
 | zero => intro t58 w h hH; exact absurd h (by simp [charabancref34_Lines_17.l0])
 | succ k ih =>
  intro t58 w h hH
  rw [charabancref34_Lines_17.l0.eq_2] at h
  refine Xg 1 [.c 25, .c 30, .lp 24, .blk 2, .c 32, .blk 1, .c 43, .lp 9, .blk 0, .c 44] (Xd 1 26 [.c 27, .c 30, .lp 24, .blk 2, .c 32, .blk 1, .c 43, .lp 9, .blk 0, .c 44] 3 [(0, sV pA0 p0 pc0), (1, iC t42), (2, iA p2), (7, sV A43 t45 c44), (8, iA t46), (9, pt b47), (10, sV A54 t56 c55), (11, tB t57), (12, tS t58), (31, tB (decide ((t58.size : Int) < 8)))] (Vc 31 28 29 h (fun hc59 h => ?_) fun hc59 h => ?_))
  ·refine Xg 1 [.c 30, .lp 24, .blk 2, .c 32, .blk 1, .c 43, .lp 9, .blk 0, .c 44] (Xq 1 31 [.blk 3, .lp 24, .blk 2, .c 32, .blk 1, .c 43, .lp 9, .blk 0, .c 44] 1 [(0, sV pA0 p0 pc0), (1, iC t42), (2, iA p2), (7, sV A43 t45 c44), (8, iA t46), (9, pt b47), (10, sV A54 t56 c55), (11, tB t57), (32, tS t58)] ?_)
   have ⟨hc60, h⟩ := oz h
   refine Yt 33 t58 sg15 hc60 (Zd 1 [0, 1, 2, 7, 8, 9, 10, 11, 12] [(12, tS (t58 ++ sg15))] (Xg 2 [.c 24, .lp 24, .blk 2, .c 32, .blk 1, .c 43, .lp 9, .blk 0, .c 44] (Vl [(0, sV pA0 p0 pc0), (1, iC t42), (2, iA p2), (7, sV A43 t45 c44), (8, iA t46), (9, pt b47), (10, sV A54 t56 c55), (11, tB t57), (12, tS (t58 ++ sg15))] ?_)))
   exact ih (t58 ++ sg15) w h (hH.pk [0, 1, 2, 3])
  ·refine Xg 1 [.c 32, .blk 1, .c 43, .lp 9, .blk 0, .c 44] (Vl [(0, sV pA0 p0 pc0), (1, iC t42), (2, iA p2), (7, sV A43 t45 c44), (8, iA t46), (9, pt b47), (10, sV A54 t56 c55), (11, tB t57), (12, tS t58)] ?_)
   exact hk0 t58 w (sI h).symm (hH.pk [0, 1, 2, 3])
def charabancref34_Lines_17.l1 (K : Nat) (p0 : List (Int × Int)) (p1 : Int) (p2 : Int) : Nat → Int → (List ByteArray) → Int → Option (List ByteArray)
 | 0, _, _, _ => none
 | k + 1, t2, t5, t6 => (charabancref34_many_32.f K p2).bind fun t11 => cond (decide (t6 < t11)) ((charabancref34_at_33.f K p0 t2).bind fun yt17 => (charabancref30_Digits_41.f K yt17.2.2.2.2.2.2.1).bind fun t41 => (charabancref34_Lines_17.l0 K p0 p1 p2 t2 t5 t6 yt17.1 yt17.2.1 yt17.2.2.1 yt17.2.2.2.1 yt17.2.2.2.2.1 yt17.2.2.2.2.2.1 yt17.2.2.2.2.2.2.1 yt17.2.2.2.2.2.2.2 K t41).bind (fun t64 => Let (fun (t73 : ByteArray) => (charabancref09_Hex_43.f K (IntKind.wrap .i64 t2) 4).bind fun t83 => cond (mayCat t83.size (⟨#[58, 32]⟩ : ByteArray).size) (cond (mayCat (t83 ++ (⟨#[58, 32]⟩ : ByteArray)).size t64.size) (cond (mayCat ((t83 ++ (⟨#[58, 32]⟩ : ByteArray)) ++ t64).size (⟨#[32]⟩ : ByteArray).size) (cond (mayCat (((t83 ++ (⟨#[58, 32]⟩ : ByteArray)) ++ t64) ++ (⟨#[32]⟩ : ByteArray)).size t73.size) (cond (mayBe (t5.length + ([((((t83 ++ (⟨#[58, 32]⟩ : ByteArray)) ++ t64) ++ (⟨#[32]⟩ : ByteArray)) ++ t73)] : List ByteArray).length) 16) (charabancref34_Lines_17.l1 K p0 p1 p2 k (IntKind.wrap .u16 (t2 + (IntKind.wrap .u16 (yt17.2.2.2.2.2.2.1.length : Int)))) (t5 ++ ([((((t83 ++ (⟨#[58, 32]⟩ : ByteArray)) ++ t64) ++ (⟨#[32]⟩ : ByteArray)) ++ t73)] : List ByteArray)) (IntKind.wrap .i64 (t6 + 1))) none) none) none) none) none) (fun j76 => cond yt17.2.2.2.2.2.2.2 ((charabancref09_Show_42.f K yt17.1 yt17.2.1 yt17.2.2.1 yt17.2.2.2.1 yt17.2.2.2.2.1 yt17.2.2.2.2.2.1).bind fun t72 => j76 t72) (j76 (⟨#[46, 46]⟩ : ByteArray))))) (some t5)
theorem charabancref34_Lines_17.l1_ok (K : Nat) (M0 : Nat → Prop) (w0 : World) (pA0 : Option Addr) (pc0 : Nat) (p0 : List (Int × Int)) (p1 : Int) (p2 : Int) (R : Ending → World → Prop) (x : (List ByteArray)) (hk0 : ∀ (t101 : List ByteArray) (A99 : Option Addr) (c100 : Nat) (w1 : World), x = t101 → Holds M0 w0 w1 [own Rp.str 9 (sV A99 t101 c100) t101] → RunsI F17 [.c 44] [(7, sV A99 t101 c100)] w1 R) :
  ∀ (k : Nat) (t2 : Int) (t5 : List ByteArray) (t6 : Int) (A3 : Option Addr) (c4 : Nat) (w : World), charabancref34_Lines_17.l1 K p0 p1 p2 k t2 t5 t6 = some x → Holds M0 w0 w [sl (Rp.pair rC rB) (sV pA0 p0 pc0) p0, own Rp.str 9 (sV A3 t5 c4) t5] → RunsI F17 [.c 9, .lp 9, .blk 0, .c 44] [(0, sV pA0 p0 pc0), (1, iC t2), (2, iA p2), (7, sV A3 t5 c4), (8, iA t6)] w R := by
 intro k
 induction k with
 | zero => intro t2 t5 t6 A3 c4 w h hH; exact absurd h (by simp [charabancref34_Lines_17.l1])
 | succ k ih =>
  intro t2 t5 t6 A3 c4 w h hH
  rw [charabancref34_Lines_17.l1.eq_2] at h
  refine Xg 1 [.c 10, .c 15, .lp 9, .blk 0, .c 44] (Xq 1 11 [.c 12, .c 15, .lp 9, .blk 0, .c 44] 2 [(0, sV pA0 p0 pc0), (1, iC t2), (2, iA p2), (7, sV A3 t5 c4), (8, iA t6), (14, iA t6), (15, iA p2)] ?_)
  obtain ⟨t11, hg10, h⟩ := of_bind h
  refine Yc 16 32 #[iA p2] ((charabancref34_many_32_ok K _ w  p2 hH.old' hg10).mono ?_)
  rintro _ w7 ⟨rfl, hb8⟩
  refine ⟨_, rfl, ?_⟩
  have h9 := hH.call hb8
  refine Zd 1 [0, 1, 2, 7, 8, 17] [(17, tB (decide (t6 < t11)))] (Vc 17 13 14 h (fun hc12 h => ?_) fun hc12 h => ?_)
  ·refine Xg 1 [.c 15, .lp 9, .blk 0, .c 44] (Xq 3 18 [.c 19, .blk 1, .c 43, .lp 9, .blk 0, .c 44] 2 [(0, sV pA0 p0 pc0), (1, iC t2), (2, iA p2), (7, sV A3 t5 c4), (8, iA t6), (21, sV pA0 p0 pc0), (22, iC t2)] ?_)
   obtain ⟨⟨t17, t18, t19, t20, t21, t22, t23, t27⟩, hg16, h⟩ := of_bind h
   dsimp only at h
   refine Yc 23 33 #[sV pA0 p0 pc0, iC t2] ((charabancref34_at_33_ok K _ w7  pA0 pc0 p0 t2 h9.old' (h9.get 0 rfl) hg16).mono ?_)
   rintro _ w13 ⟨A24, c25, rfl, hr28⟩
   refine ⟨_, rfl, ?_⟩
   have hb14 := hr28.below
   have h15 := h9.join hr28
   refine Zp 4 [0, 1, 2, 7, 8, 24, 25, 26] [(24, .agg #[iA t17, iB t18, iB t19, iC t20, iA t21, iA t22]), (25, sV A24 t23 c25), (26, tB t27)] (Yx 9 25 [iA 0, iB 0, iB 0, iC 0, iA 0, iA 0] h15 ?_)
   intro w29 b30 h31 hb32 hn33
   refine Yb 3 25 b30 0 (.agg #[iA t17, iB t18, iB t19, iC t20, iA t21, iA t22]) [iA t17, iB t18, iB t19, iC t20, iA t21, iA t22] h31 rfl ?_
   intro w34 h35 hk36
   refine Zp 2 [0, 1, 2, 7, 8, 9, 10, 11] [(9, pt b30), (10, sV A24 t23 c25), (11, tB t27)] (Zy 1 20 [.c 21, .blk 1, .c 43, .lp 9, .blk 0, .c 44] 1 [0, 1, 2, 7, 8, 9, 10, 11, 27] [(27, sV A24 t23 c25)] ?_)
   obtain ⟨t41, hg40, h⟩ := of_bind h
   refine Yc 28 41 #[sV A24 t23 c25] ((charabancref30_Digits_41_ok K (fun _ => False) w34  A24 c25 t23 nF (h35.ownSl 2 rfl) hg40).mono ?_)
   rintro _ w37 ⟨rfl, hb38⟩
   refine ⟨_, rfl, ?_⟩
   have h39 := h35.call hb38
   refine Zd 1 [0, 1, 2, 7, 8, 9, 10, 11, 12] [(12, tS t41)] (Xg 3 [.c 24, .lp 24, .blk 2, .c 32, .blk 1, .c 43, .lp 9, .blk 0, .c 44] ?_)
   obtain ⟨x62, hx63, h⟩ := of_bind h
   refine Vl [(0, sV pA0 p0 pc0), (1, iC t2), (2, iA p2), (7, sV A3 t5 c4), (8, iA t6), (9, pt b30), (10, sV A24 t23 c25), (11, tB t27), (12, tS t41)] (charabancref34_Lines_17.l0_ok K M0 w0 pA0 pc0 p0 p1 p2 t2 t5 t6 t17 t18 t19 t20 t21 t22 t23 t27 A3 c4 b30 A24 c25 _ x62 ?_ K t41 w37 hx63 (h39.pk [0, 1, 3, 2]))
   ·intro t64 w66 hq109 h65
    (try rw [hq109] at h)
    refine Xq 1 33 [.c 34, .blk 1, .c 43, .lp 9, .blk 0, .c 44] 1 [(0, sV pA0 p0 pc0), (1, iC t2), (2, iA p2), (7, sV A3 t5 c4), (8, iA t6), (9, pt b30), (10, sV A24 t23 c25), (11, tB t27), (12, tS t64), (13, tS sg87)] (Zy 2 36 [.c 37, .c 40, .blk 1, .c 43, .lp 9, .blk 0, .c 44] 1 [0, 1, 2, 7, 8, 9, 10, 12, 13, 34] [(34, tB t27)] (Ye ?_))
    obtain ⟨j76, hJ77, h⟩ := of_let h
    have hj78 : ∀ (t73 : ByteArray) (w75 : World), j76 t73 = some x → Holds M0 w0 w75 [sl (Rp.pair rC rB) (sV pA0 p0 pc0) p0, own Rp.str 9 (sV A3 t5 c4) t5, own rB 5 (sV A24 t23 c25) t23] → RunsI F17 [.c 40, .blk 1, .c 43, .lp 9, .blk 0, .c 44] [(0, sV pA0 p0 pc0), (1, iC t2), (2, iA p2), (7, sV A3 t5 c4), (8, iA t6), (10, sV A24 t23 c25), (12, tS t64), (13, tS t73)] w75 R := by
     intro t73 w75 h h74
     rw [hJ77] at h
     clear hJ77
     dsimp only at h
     refine Xq 1 41 [.c 42, .blk 1, .c 43, .lp 9, .blk 0, .c 44] 3 [(0, sV pA0 p0 pc0), (1, iC t2), (2, iA p2), (8, iA t6), (10, sV A24 t23 c25), (12, tS t64), (13, tS t73), (37, sV A3 t5 c4), (39, iA (wA t2))] ?_
     obtain ⟨t83, hg82, h⟩ := of_bind h
     refine Yc 40 43 #[iA (wA t2), iA 4] ((charabancref09_Hex_43_ok K _ w75  (wA t2) 4 h74.old' hg82).mono ?_)
     rintro _ w79 ⟨rfl, hb80⟩
     refine ⟨_, rfl, ?_⟩
     have h81 := h74.call hb80
     have ⟨hc84, h⟩ := oz h
     refine Yt 41 t83 sg17 hc84 (Zp 1 [0, 1, 2, 8, 10, 13, 37, 41, 42] [(41, tS (t83 ++ sg17)), (42, tS t64)] ?_)
     have ⟨hc85, h⟩ := oz h
     refine Yt 43 (t83 ++ sg17) t64 hc85 ?_
     have ⟨hc86, h⟩ := oz h
     refine Yt 44 ((t83 ++ sg17) ++ t64) sg15 hc86 (Zp 1 [0, 1, 2, 8, 10, 37, 44, 45] [(44, tS (((t83 ++ sg17) ++ t64) ++ sg15)), (45, tS t73)] ?_)
     have ⟨hc87, h⟩ := oz h
     refine Yt 46 (((t83 ++ sg17) ++ t64) ++ sg15) t73 hc87 (Yo (OpE.lit 47 9 [tS ((((t83 ++ sg17) ++ t64) ++ sg15) ++ t73)] 1 h81 (by kernel_rfl) (by kernel_rfl) ?_))
     intro w88 b89 h90 hb91 hn92
     have ⟨hc93, h⟩ := oz h
     refine Yo (OpE.appendBox 48 1 3 34 9 16 ([((((t83 ++ sg17) ++ t64) ++ sg15) ++ t73)] : List ByteArray) 0 h90 (by kernel_rfl) (by kernel_rfl) (by kernel_rfl) rfl rfl rfl (cells_str _ _ _) hc93 ?_)
     intro w94 A95 c96 h97 hk98
     refine Zd 1 [0, 1, 2, 7, 8, 10] [(7, .slice A95 ((t5 ++ ([((((t83 ++ sg17) ++ t64) ++ sg15) ++ t73)] : List ByteArray)).length) c96)] (Xr (Zp 6 [0, 1, 2, 7, 8] [(1, iC (wC (t2 + (wC (t23.length : Int)))))] (Zy 1 43 [.lp 9, .blk 0, .c 44] 3 [0, 1, 2, 7, 8] [(8, iA (wA (t6 + 1)))] (Ye (Xg 1 [.c 9, .lp 9, .blk 0, .c 44] (Vl [(0, sV pA0 p0 pc0), (1, iC (wC (t2 + (wC (t23.length : Int))))), (2, iA p2), (7, .slice A95 ((t5 ++ ([((((t83 ++ sg17) ++ t64) ++ sg15) ++ t73)] : List ByteArray)).length) c96), (8, iA (wA (t6 + 1)))] ?_))))))
     exact ih (wC (t2 + (wC (t23.length : Int)))) (t5 ++ ([((((t83 ++ sg17) ++ t64) ++ sg15) ++ t73)] : List ByteArray)) (wA (t6 + 1)) A95 c96 w94 h (h97.pk [0, 1])
    clear hJ77
    refine Vc 34 38 39 h (fun hc67 h => ?_) fun hc67 h => ?_
    ·refine Xr (Ya 35 2 25 b30 0 (.agg #[iA t17, iB t18, iB t19, iC t20, iA t21, iA t22]) h65 rfl ?_)
     obtain ⟨t72, hg71, h⟩ := of_bind h
     refine Yc 36 42 #[.agg #[iA t17, iB t18, iB t19, iC t20, iA t21, iA t22]] ((charabancref09_Show_42_ok K _ w66  t17 t18 t19 t20 t21 t22 h65.old' hg71).mono ?_)
     rintro _ w68 ⟨rfl, hb69⟩
     refine ⟨_, rfl, ?_⟩
     have h70 := h65.call hb69
     refine Yd 1 [(0, sV pA0 p0 pc0), (1, iC t2), (2, iA p2), (7, sV A3 t5 c4), (8, iA t6), (10, sV A24 t23 c25), (12, tS t64), (13, tS t72)] (Vl [(0, sV pA0 p0 pc0), (1, iC t2), (2, iA p2), (7, sV A3 t5 c4), (8, iA t6), (10, sV A24 t23 c25), (12, tS t64), (13, tS t72)] ?_)
     exact hj78 t72 w68 h (h70.pk [0, 1, 3])
    ·refine Xg 1 [.c 40, .blk 1, .c 43, .lp 9, .blk 0, .c 44] (Vl [(0, sV pA0 p0 pc0), (1, iC t2), (2, iA p2), (7, sV A3 t5 c4), (8, iA t6), (10, sV A24 t23 c25), (12, tS t64), (13, tS sg87)] ?_)
     exact hj78 sg87 w66 h (h65.pk [0, 1, 3])
  ·refine Xg 1 [.c 44] (Vl [(7, sV A3 t5 c4)] ?_)
   exact hk0 t5 A3 c4 w7 (sI h).symm (h9.pk [1])
def charabancref34_Lines_17.f (K : Nat) (p0 : List (Int × Int)) (p1 : Int) (p2 : Int) : Option (List ByteArray) := (charabancref34_Lines_17.l1 K p0 p1 p2 K p1 ([] : List ByteArray) 0).bind (fun t106 => some t106)
theorem charabancref34_Lines_17_ok (K : Nat) (M0 : Nat → Prop) (w0 : World) (pA0 : Option Addr) (pc0 : Nat) (p0 : List (Int × Int)) (p1 : Int) (p2 : Int) (ho : ∀ b, M0 b → b < w0.heap.size) (hs0 : Sl (Rp.pair rC rB) w0 M0 (sV pA0 p0 pc0) p0) {r : (List ByteArray)} (h : charabancref34_Lines_17.f K p0 p1 p2 = some r) :
  Calls Tryz.prog 17 #[sV pA0 p0 pc0, iC p1, iA p2] w0 (charabancref34_Lines_17.post M0 w0 r) := by
 unfold charabancref34_Lines_17.f at h
 have h0 : Holds M0 w0 w0 [] := Holds.start ho
 have h00 := h0.aS hs0
 have h0 : Holds M0 w0 w0 [sl (Rp.pair rC rB) (sV pA0 p0 pc0) p0] := h00
 refine calls_of F17 rfl [sV pA0 p0 pc0, iC p1, iA p2] (by kernel_rfl) (Xq 1 1 [.c 2] 1 [(0, sV pA0 p0 pc0), (1, iC p1), (2, iA p2)] (Zy 1 3 [.c 4] 1 [0, 1, 2, 7] [(7, n0)] (Zy 2 6 [.c 7, .c 44] 1 [0, 1, 2, 7, 8] [(8, iA 0)] (Ye (Xg 2 [.c 9, .lp 9, .blk 0, .c 44] ?_)))))
 obtain ⟨x102, hx103, h⟩ := of_bind h
 have h1 := h0.addOwnNil Rp.str 9
 refine Vl [(0, sV pA0 p0 pc0), (1, iC p1), (2, iA p2), (7, .slice none (([] : List ByteArray).length) 0), (8, iA 0)] (charabancref34_Lines_17.l1_ok K M0 w0 pA0 pc0 p0 p1 p2 _ x102 ?_ K p1 ([] : List ByteArray) 0 none 0 w0 hx103 (h1.pk [0, 1]))
 ·intro t106 A104 c105 w108 hq110 h107
  (try rw [hq110] at h)
  refine Xd 1 45 [.c 46] 2 [(6, sV A104 t106 c105)] (Xt (sV A104 t106 c105) ?_)
  obtain rfl := sI h
  exact ⟨A104, c105, rfl, h107.pk [0]⟩
end
end Go.Proofs.YtbcepghanbkncaaGreatDoor.LiL
