/- Functions of the program as plain Lean functions, each with the proof that the call comes to it; written by wip/eng.py. -/
import Derived.Test.YtbcepghanbkncaaDoorIm
set_option linter.unusedVariables false
set_option linter.unusedSimpArgs false
set_option maxHeartbeats 4000000
namespace Go.Proofs.YtbcepghanbkncaaDoor.Im
open Go.RowKit Go.Eng
/-! ### charabanc/image.Read (function 7) -/
section
def image_Read_7.post (M0 : Nat → Prop) (w0 : World) (r : (List Int) × Int × Int × (List (Int × Int)) × Int × Int × Int) : Ending → World → Prop := fun e w => ∃ (A1 : Option Addr) (c1 : Nat) (A4 : Option Addr) (c4 : Nat), e = .returned (.tuple #[.agg #[.slice A1 r.1.length c1, .int .i64 r.2.1, .int .i64 r.2.2.1, .slice A4 r.2.2.2.1.length c4, .int .u16 r.2.2.2.2.1], .int .i64 r.2.2.2.2.2.1, .int .i64 r.2.2.2.2.2.2]) ∧ Holds M0 w0 w [own (Rp.int .u8) 5 (.slice A1 r.1.length c1) r.1, sl (Rp.pair (Rp.int .i64) (Rp.int .u8)) (.slice A4 r.2.2.2.1.length c4) r.2.2.2.1]
def image_Read_7.l0 (K : Nat) (p0 : ByteArray) (t30 : Int) : Nat → ByteArray → (List ByteArray) → Int → Option (ByteArray × (List ByteArray) × Int)
 | 0, _, _, _ => none
 | k + 1, t29, t33, t34 => cond (decide (t34 < t30)) ((strings_Index_61.f K t29 (⟨#[10]⟩ : ByteArray)).bind fun t42 => cond (decide (t42 < 0)) (some (t29, t33, t34)) (cond (cutR 0 (IntKind.wrap .i64 (t42 + 0)) t29.size) (cond (inR t34 t33.length) (cond (cutR (IntKind.wrap .i64 (t42 + ((⟨#[10]⟩ : ByteArray).size : Int))) (t29.size : Int) t29.size) (image_Read_7.l0 K p0 t30 k (strCut t29 (IntKind.wrap .i64 (t42 + ((⟨#[10]⟩ : ByteArray).size : Int))) (t29.size : Int)) (stD t33 t34 (strCut t29 0 (IntKind.wrap .i64 (t42 + 0)))) (IntKind.wrap .i64 (t34 + 1))) none) none) none)) (some (t29, t33, t34))
set_option maxRecDepth 100000 in
theorem image_Read_7.l0_ok (K : Nat) (M0 : Nat → Prop) (w0 : World) (p0 : ByteArray) (t30 : Int) (A31 : Option Addr) (c32 : Nat) (b35 : Nat) (b36 : Nat) (R : Ending → World → Prop) (x : ByteArray × (List ByteArray) × Int) (hk0 : ∀ (t51 : ByteArray) (t52 : List ByteArray) (t53 : Int) (w1 : World), x = (t51, t52, t53) → Holds M0 w0 w1 [own Rp.str 9 (.slice A31 t52.length c32) t52, box b35 29 [.slice none 0 0, .int .i64 0, .int .i64 0, .slice none 0 0, .int .u16 0], box b36 29 [.slice none 0 0, .int .i64 1, .int .i64 0, .slice none 0 0, .int .u16 0]] → RunsI F35 [.c 55] [(0, .string t51), (9, .slice A31 t52.length c32), (10, .int .i64 t53)] w1 R) :
  ∀ (k : Nat) (t29 : ByteArray) (t33 : List ByteArray) (t34 : Int) (w : World), image_Read_7.l0 K p0 t30 k t29 t33 t34 = some x → Holds M0 w0 w [own Rp.str 9 (.slice A31 t33.length c32) t33, box b35 29 [.slice none 0 0, .int .i64 0, .int .i64 0, .slice none 0 0, .int .u16 0], box b36 29 [.slice none 0 0, .int .i64 1, .int .i64 0, .slice none 0 0, .int .u16 0]] → RunsI F35 [.c 35, .lp 35, .blk 0, .c 55] [(0, .string t29), (1, .string (⟨#[10]⟩ : ByteArray)), (2, .int .i64 0), (3, .int .i64 t30), (9, .slice A31 t33.length c32), (10, .int .i64 t34)] w R := by
 intro k
 induction k with
 | zero => intro t29 t33 t34 w h hH; exact absurd h (by simp [image_Read_7.l0])
 | succ k ih =>
  intro t29 t33 t34 w h hH
  rw [image_Read_7.l0.eq_2] at h
  refine RunsI.g 1 [.c 36, .c 41, .lp 35, .blk 0, .c 55] ?_
  refine RunsI.g 1 [.c 37, .c 38, .c 41, .lp 35, .blk 0, .c 55] ?_
  refine RunsI.r ?_
  refine RegI.p 3 [(0, .string t29), (1, .string (⟨#[10]⟩ : ByteArray)), (2, .int .i64 0), (3, .int .i64 t30), (9, .slice A31 t33.length c32), (10, .int .i64 t34), (36, .bool (decide (t34 < t30)))] ?_
  refine RegI.d ?_
  rcases of_cond h with ⟨hc37, h⟩ | ⟨hc37, h⟩
  ·skip
   refine RunsI.f 36 true hc37 ?_
   refine RunsI.b true 39 ?_
   refine RunsI.g 1 [.c 41, .lp 35, .blk 0, .c 55] ?_
   refine RunsI.g 2 [.c 43, .c 44, .blk 1, .lp 35, .blk 0, .c 55] ?_
   refine RunsI.r ?_
   refine RegI.p 2 [(0, .string t29), (1, .string (⟨#[10]⟩ : ByteArray)), (2, .int .i64 0), (3, .int .i64 t30), (9, .slice A31 t33.length c32), (10, .int .i64 t34), (37, .string t29), (38, .string (⟨#[10]⟩ : ByteArray))] ?_
   obtain ⟨t42, hg41, h⟩ := of_bind h
   refine RegI.o (OpE.call 39 (by kernel_rfl) 61 #[.string t29, .string (⟨#[10]⟩ : ByteArray)] (by kernel_rfl) ((strings_Index_61_ok K _ w  t29 (⟨#[10]⟩ : ByteArray) hH.old' hg41).mono ?_))
   rintro _ w38 ⟨rfl, hb39⟩
   refine ⟨_, rfl, ?_⟩
   have h40 := hH.call hb39
   refine RegI.p 1 [(0, .string t29), (1, .string (⟨#[10]⟩ : ByteArray)), (2, .int .i64 0), (3, .int .i64 t30), (9, .slice A31 t33.length c32), (10, .int .i64 t34), (11, .int .i64 t42)] ?_
   refine RegI.d ?_
   refine RunsI.g 2 [.c 46, .c 47, .c 50, .blk 1, .lp 35, .blk 0, .c 55] ?_
   refine RunsI.r ?_
   refine RegI.p 2 [(0, .string t29), (1, .string (⟨#[10]⟩ : ByteArray)), (2, .int .i64 0), (3, .int .i64 t30), (9, .slice A31 t33.length c32), (10, .int .i64 t34), (11, .int .i64 t42), (41, .bool (decide (t42 < 0)))] ?_
   refine RegI.d ?_
   rcases of_cond h with ⟨hc43, h⟩ | ⟨hc43, h⟩
   ·skip
    refine RunsI.f 41 true hc43 ?_
    refine RunsI.b true 48 ?_
    refine RunsI.g 1 [.c 55] ?_
    refine RunsI.l [0, 9, 10] [(0, .string t29), (9, .slice A31 t33.length c32), (10, .int .i64 t34)] ?_
    exact hk0 t29 t33 t34 w38 (Option.some.inj h).symm (h40.pick [0, 1, 2] (by decide))
   ·skip
    refine RunsI.f 41 false hc43 ?_
    refine RunsI.b false 49 ?_
    refine RunsI.g 1 [.c 50, .blk 1, .lp 35, .blk 0, .c 55] ?_
    refine RunsI.g 1 [.c 51, .c 52, .blk 1, .lp 35, .blk 0, .c 55] ?_
    refine RunsI.r ?_
    refine RegI.p 6 [(0, .string t29), (1, .string (⟨#[10]⟩ : ByteArray)), (2, .int .i64 0), (3, .int .i64 t30), (9, .slice A31 t33.length c32), (10, .int .i64 t34), (11, .int .i64 t42), (42, .slice A31 t33.length c32), (43, .int .i64 t34), (44, .string t29), (47, .int .i64 (IntKind.wrap .i64 (t42 + 0)))] ?_
    obtain ⟨hc44, h⟩ := of_cond0 h
    refine RegI.o (OpE.run 48 (by kernel_rfl) (run_strCut (T := 9) (s := t29) (lo := none) (hi := (some (IntKind.wrap .i64 (t42 + 0)))) (by kernel_rfl) (by kernel_rfl) hc44) ?_)
    obtain ⟨hc45, h⟩ := of_cond0 h
    refine RegI.o (OpE.idxOwnA 49 0 52 9 t34 h40 (by kernel_rfl) rfl (by kernel_rfl) (by kernel_rfl) hc45 ?_)
    refine RegI.o (OpE.storeOwnA 0 9 9 t34 0 (.string (strCut t29 0 (IntKind.wrap .i64 (t42 + 0)))) (o := (Int.toNat t34) * 1 + 0) (strCut t29 0 (IntKind.wrap .i64 (t42 + 0))) h40 (by kernel_rfl) (by kernel_rfl) rfl (by kernel_rfl) (by kernel_rfl) (by kernel_rfl) hc45 (fun _ hk => by obtain rfl := hk; exact rfl) ?_)
    intro w46 h47 hk48
    refine RegI.d ?_
    refine RunsI.g 1 [.c 53, .c 54, .blk 1, .lp 35, .blk 0, .c 55] ?_
    refine RunsI.r ?_
    refine RegI.p 5 [(1, .string (⟨#[10]⟩ : ByteArray)), (2, .int .i64 0), (3, .int .i64 t30), (9, .slice A31 t33.length c32), (10, .int .i64 t34), (50, .string t29), (54, .int .i64 (IntKind.wrap .i64 (t42 + ((⟨#[10]⟩ : ByteArray).size : Int))))] ?_
    obtain ⟨hc49, h⟩ := of_cond0 h
    refine RegI.o (OpE.run 55 (by kernel_rfl) (run_strCut (T := 9) (s := t29) (lo := (some (IntKind.wrap .i64 (t42 + ((⟨#[10]⟩ : ByteArray).size : Int))))) (hi := none) (by kernel_rfl) (by kernel_rfl) hc49) ?_)
    refine RegI.p 1 [(0, .string (strCut t29 (IntKind.wrap .i64 (t42 + ((⟨#[10]⟩ : ByteArray).size : Int))) (t29.size : Int))), (1, .string (⟨#[10]⟩ : ByteArray)), (2, .int .i64 0), (3, .int .i64 t30), (9, .slice A31 t33.length c32), (10, .int .i64 t34)] ?_
    refine RegI.d ?_
    refine RunsI.r ?_
    refine RegI.p 3 [(0, .string (strCut t29 (IntKind.wrap .i64 (t42 + ((⟨#[10]⟩ : ByteArray).size : Int))) (t29.size : Int))), (1, .string (⟨#[10]⟩ : ByteArray)), (2, .int .i64 0), (3, .int .i64 t30), (9, .slice A31 t33.length c32), (10, .int .i64 (IntKind.wrap .i64 (t34 + 1)))] ?_
    refine RegI.d ?_
    refine RunsI.g 2 [.c 35, .lp 35, .blk 0, .c 55] ?_
    refine RunsI.l [0, 1, 2, 3, 9, 10] [(0, .string (strCut t29 (IntKind.wrap .i64 (t42 + ((⟨#[10]⟩ : ByteArray).size : Int))) (t29.size : Int))), (1, .string (⟨#[10]⟩ : ByteArray)), (2, .int .i64 0), (3, .int .i64 t30), (9, .slice A31 t33.length c32), (10, .int .i64 (IntKind.wrap .i64 (t34 + 1)))] ?_
    have h50 : Holds M0 w0 w46 [own Rp.str 9 (.slice A31 ((stD t33 t34 (strCut t29 0 (IntKind.wrap .i64 (t42 + 0)))).length) c32) (stD t33 t34 (strCut t29 0 (IntKind.wrap .i64 (t42 + 0)))), box b35 29 [.slice none 0 0, .int .i64 0, .int .i64 0, .slice none 0 0, .int .u16 0], box b36 29 [.slice none 0 0, .int .i64 1, .int .i64 0, .slice none 0 0, .int .u16 0]] := by have hY : Holds M0 w0 w46 [own Rp.str 9 (.slice A31 t33.length c32) (stD t33 t34 (strCut t29 0 (IntKind.wrap .i64 (t42 + 0)))), box b35 29 [.slice none 0 0, .int .i64 0, .int .i64 0, .slice none 0 0, .int .u16 0], box b36 29 [.slice none 0 0, .int .i64 1, .int .i64 0, .slice none 0 0, .int .u16 0]] := h47; simpa only [stD_length] using hY
    refine RunsI.is [(0, .string (strCut t29 (IntKind.wrap .i64 (t42 + ((⟨#[10]⟩ : ByteArray).size : Int))) (t29.size : Int))), (1, .string (⟨#[10]⟩ : ByteArray)), (2, .int .i64 0), (3, .int .i64 t30), (9, .slice A31 ((stD t33 t34 (strCut t29 0 (IntKind.wrap .i64 (t42 + 0)))).length) c32), (10, .int .i64 (IntKind.wrap .i64 (t34 + 1)))] (by simp only [stD_length]) ?_
    refine RunsI.l [0, 1, 2, 3, 9, 10] [(0, .string (strCut t29 (IntKind.wrap .i64 (t42 + ((⟨#[10]⟩ : ByteArray).size : Int))) (t29.size : Int))), (1, .string (⟨#[10]⟩ : ByteArray)), (2, .int .i64 0), (3, .int .i64 t30), (9, .slice A31 ((stD t33 t34 (strCut t29 0 (IntKind.wrap .i64 (t42 + 0)))).length) c32), (10, .int .i64 (IntKind.wrap .i64 (t34 + 1)))] ?_
    exact ih (strCut t29 (IntKind.wrap .i64 (t42 + ((⟨#[10]⟩ : ByteArray).size : Int))) (t29.size : Int)) (stD t33 t34 (strCut t29 0 (IntKind.wrap .i64 (t42 + 0)))) (IntKind.wrap .i64 (t34 + 1)) w46 h (h50.pick [0, 1, 2] (by decide))
  ·skip
   refine RunsI.f 36 false hc37 ?_
   refine RunsI.b false 40 ?_
   refine RunsI.g 1 [.c 55] ?_
   refine RunsI.l [0, 9, 10] [(0, .string t29), (9, .slice A31 t33.length c32), (10, .int .i64 t34)] ?_
   exact hk0 t29 t33 t34 w (Option.some.inj h).symm (hH.pick [0, 1, 2] (by decide))
def image_Read_7.l1 (K : Nat) (p0 : ByteArray) (t84 : List ByteArray) (t85 : Int) : Nat → (List Int) → Int → Int → (List (Int × Int)) → Int → Int → Option (Lp Int ((List Int) × Int × Int × (List (Int × Int)) × Int))
 | 0, _, _, _, _, _, _ => none
 | k + 1, t75, t76, t77, t80, t81, t86 => cond (decide (t86 < t85)) (cond (inR t86 t84.length) (Let (fun (yj361 : (List Int) × Int × Int × (List (Int × Int)) × Int × Bool) => cond (!yj361.2.2.2.2.2) (some (Lp.ret (IntKind.wrap .i64 (t86 + 1)))) (image_Read_7.l1 K p0 t84 t85 k yj361.1 yj361.2.1 yj361.2.2.1 yj361.2.2.2.1 yj361.2.2.2.2.1 (IntKind.wrap .i64 (t86 + 1)))) (fun j361 => Let (fun (t102 : Bool) => cond t102 (j361 (t75, t76, t77, t80, t81, true)) (Let (fun (yj129 : ByteArray × ByteArray × Bool) => cond (yj129.1 == (⟨#[98, 97, 110, 107, 115]⟩ : ByteArray)) (cond yj129.2.2 ((image_few_39.f K yj129.2.1).bind fun yt167 => j361 (t75, yt167.1, t77, t80, t81, yt167.2)) (j361 (t75, t76, t77, t80, t81, false))) (cond (yj129.1 == (⟨#[98, 97, 110, 107]⟩ : ByteArray)) (cond yj129.2.2 ((image_few_39.f K yj129.2.1).bind fun yt187 => j361 (t75, t76, yt187.1, t80, t81, yt187.2)) (j361 (t75, t76, t77, t80, t81, false))) (cond (yj129.1 == (⟨#[112, 99]⟩ : ByteArray)) (cond yj129.2.2 ((image_number_24.f K yj129.2.1 4).bind fun yt206 => j361 (t75, t76, t77, t80, (IntKind.wrap .u16 yt206.1), yt206.2)) (j361 (t75, t76, t77, t80, t81, false))) (cond (yj129.1 == (⟨#[114, 111, 109]⟩ : ByteArray)) (cond yj129.2.2 ((image_Bytes_9.f K yj129.2.1).bind fun yt217 => cond (mayBe (t75.length + yt217.1.length) 1) (j361 ((t75 ++ yt217.1), t76, t77, t80, t81, yt217.2)) none) (j361 (t75, t76, t77, t80, t81, false))) (cond (yj129.1 == (⟨#[114, 97, 109]⟩ : ByteArray)) (cond yj129.2.2 (Let (fun (yj345 : Bool × Int × Int × (List (Int × Int))) => j361 (t75, yj345.2.1, yj345.2.2.1, yj345.2.2.2, t81, yj345.1)) (fun j345 => Let (fun (yj271 : ByteArray × ByteArray × Bool) => (image_number_24.f K yj271.1 5).bind fun yt278 => (image_Bytes_9.f K yj271.2.1).bind fun yt284 => Let (fun (t292 : Bool) => cond t292 ((banks_Load_44.f K t75 t76 t77 t80 yt278.1 yt284.1).bind fun yt312 => cond yj271.2.2 (cond yt278.2 (j345 (yt284.2, yt312.2.1, yt312.2.2.1, yt312.2.2.2)) (j345 (false, yt312.2.1, yt312.2.2.1, yt312.2.2.2))) (j345 (false, yt312.2.1, yt312.2.2.1, yt312.2.2.2))) (cond yj271.2.2 (cond yt278.2 (j345 (yt284.2, t76, t77, t80)) (j345 (false, t76, t77, t80))) (j345 (false, t76, t77, t80)))) (fun j295 => cond yj271.2.2 (cond yt278.2 (j295 yt284.2) (j295 false)) (j295 false))) (fun j271 => (stringslite_Index_76.f K yj129.2.1 (⟨#[32]⟩ : ByteArray)).bind fun t255 => cond (decide (t255 ≥ 0)) (cond (cutR 0 t255 yj129.2.1.size) (cond (cutR (IntKind.wrap .i64 (t255 + ((⟨#[32]⟩ : ByteArray).size : Int))) (yj129.2.1.size : Int) yj129.2.1.size) (j271 ((strCut yj129.2.1 0 t255), (strCut yj129.2.1 (IntKind.wrap .i64 (t255 + ((⟨#[32]⟩ : ByteArray).size : Int))) (yj129.2.1.size : Int)), true)) none) none) (j271 (yj129.2.1, (⟨#[]⟩ : ByteArray), false))))) (j361 (t75, t76, t77, t80, t81, false))) (cond yj129.2.2 (j361 (t75, t76, t77, t80, t81, false)) (j361 (t75, t76, t77, t80, t81, false)))))))) (fun j129 => (stringslite_Index_76.f K (rdD t84 t86) (⟨#[32]⟩ : ByteArray)).bind fun t113 => cond (decide (t113 ≥ 0)) (cond (cutR 0 t113 (rdD t84 t86).size) (cond (cutR (IntKind.wrap .i64 (t113 + ((⟨#[32]⟩ : ByteArray).size : Int))) ((rdD t84 t86).size : Int) (rdD t84 t86).size) (j129 ((strCut (rdD t84 t86) 0 t113), (strCut (rdD t84 t86) (IntKind.wrap .i64 (t113 + ((⟨#[32]⟩ : ByteArray).size : Int))) ((rdD t84 t86).size : Int)), true)) none) none) (j129 ((rdD t84 t86), (⟨#[]⟩ : ByteArray), false))))) (fun j105 => cond ((ByteArray.toList (rdD t84 t86)) == (ByteArray.toList (⟨#[]⟩ : ByteArray))) (j105 true) ((strings_HasPrefix_36.f K (rdD t84 t86) (⟨#[59]⟩ : ByteArray)).bind fun t101 => j105 t101)))) none) (some (Lp.go (t75, t76, t77, t80, t81)))
set_option maxRecDepth 100000 in
theorem image_Read_7.l1_ok (K : Nat) (M0 : Nat → Prop) (w0 : World) (p0 : ByteArray) (t84 : List ByteArray) (t85 : Int) (b71 : Nat) (b72 : Nat) (A82 : Option Addr) (c83 : Nat) (R : Ending → World → Prop) (x : Lp Int ((List Int) × Int × Int × (List (Int × Int)) × Int)) (hk0 : ∀ (t367 : List Int) (t368 : Int) (t369 : Int) (t372 : List (Int × Int)) (t373 : Int) (A365 : Option Addr) (c366 : Nat) (A370 : Option Addr) (c371 : Nat) (w1 : World), x = Lp.go (t367, t368, t369, t372, t373) → Holds M0 w0 w1 [box b71 29 [.slice none 0 0, .int .i64 0, .int .i64 0, .slice none 0 0, .int .u16 0], box b72 29 [.slice A365 t367.length c366, .int .i64 t368, .int .i64 t369, .slice A370 t372.length c371, .int .u16 t373], own (Rp.int .u8) 5 (.slice A365 t367.length c366) t367, sl (Rp.pair (Rp.int .i64) (Rp.int .u8)) (.slice A370 t372.length c371) t372] → RunsI F7 [.c 36, .sc 3] [(2, .pointer (some ⟨b71, 0, none⟩)), (5, .pointer (some ⟨b72, 0, none⟩)), (7, .int .i64 0)] w1 R) (hk1 : ∀ (t374 : Int) (w1 : World), x = Lp.ret t374 → Holds M0 w0 w1 [box b71 29 [.slice none 0 0, .int .i64 0, .int .i64 0, .slice none 0 0, .int .u16 0]] → RunsI F7 [.c 48, .sc 3] [(2, .pointer (some ⟨b71, 0, none⟩)), (6, .int .i64 300), (7, .int .i64 t374)] w1 R) :
  ∀ (k : Nat) (t75 : List Int) (t76 : Int) (t77 : Int) (t80 : List (Int × Int)) (t81 : Int) (t86 : Int) (A73 : Option Addr) (c74 : Nat) (A78 : Option Addr) (c79 : Nat) (w : World), image_Read_7.l1 K p0 t84 t85 k t75 t76 t77 t80 t81 t86 = some x → Holds M0 w0 w [box b71 29 [.slice none 0 0, .int .i64 0, .int .i64 0, .slice none 0 0, .int .u16 0], box b72 29 [.slice A73 t75.length c74, .int .i64 t76, .int .i64 t77, .slice A78 t80.length c79, .int .u16 t81], own (Rp.int .u8) 5 (.slice A73 t75.length c74) t75, sl (Rp.pair (Rp.int .i64) (Rp.int .u8)) (.slice A78 t80.length c79) t80, own Rp.str 9 (.slice A82 t84.length c83) t84] → RunsI F7 [.c 18, .lp 18, .blk 0, .c 36, .sc 3] [(2, .pointer (some ⟨b71, 0, none⟩)), (5, .pointer (some ⟨b72, 0, none⟩)), (7, .int .i64 0), (16, .slice A82 t84.length c83), (17, .int .i64 t85), (18, .int .i64 t86)] w R := by
 intro k
 induction k with
 | zero => intro t75 t76 t77 t80 t81 t86 A73 c74 A78 c79 w h hH; exact absurd h (by simp [image_Read_7.l1])
 | succ k ih =>
  intro t75 t76 t77 t80 t81 t86 A73 c74 A78 c79 w h hH
  rw [image_Read_7.l1.eq_2] at h
  refine RunsI.g 1 [.c 19, .c 20, .lp 18, .blk 0, .c 36, .sc 3] ?_
  refine RunsI.r ?_
  refine RegI.p 1 [(2, .pointer (some ⟨b71, 0, none⟩)), (5, .pointer (some ⟨b72, 0, none⟩)), (7, .int .i64 0), (16, .slice A82 t84.length c83), (17, .int .i64 t85), (18, .int .i64 t86), (19, .bool (decide (t86 < t85)))] ?_
  refine RegI.d ?_
  refine RunsI.g 1 [.c 21, .c 24, .lp 18, .blk 0, .c 36, .sc 3] ?_
  rcases of_cond h with ⟨hc87, h⟩ | ⟨hc87, h⟩
  ·skip
   refine RunsI.f 19 true hc87 ?_
   refine RunsI.b true 22 ?_
   refine RunsI.g 1 [.c 24, .lp 18, .blk 0, .c 36, .sc 3] ?_
   refine RunsI.g 3 [.c 27, .c 28, .blk 1, .c 35, .lp 18, .blk 0, .c 36, .sc 3] ?_
   refine RunsI.r ?_
   refine RegI.p 1 [(2, .pointer (some ⟨b71, 0, none⟩)), (5, .pointer (some ⟨b72, 0, none⟩)), (7, .int .i64 0), (16, .slice A82 t84.length c83), (17, .int .i64 t85), (18, .int .i64 t86), (20, .int .i64 t86)] ?_
   obtain ⟨hc88, h⟩ := of_cond0 h
   refine RegI.o (OpE.idxOwnA 21 4 52 9 t86 hH (by kernel_rfl) rfl (by kernel_rfl) (by kernel_rfl) hc88 ?_)
   refine RegI.o (OpE.loadOwnA 22 4 9 9 t86 0 (o := (Int.toNat t86) * 1 + 0) hH (by kernel_rfl) rfl (by kernel_rfl) (by kernel_rfl) hc88 (fun cs89 hk90 => ?_))
   obtain rfl := hk90
   refine ⟨.string (rdD t84 t86), by kernel_rfl, ?_⟩
   refine RegI.p 2 [(2, .pointer (some ⟨b71, 0, none⟩)), (5, .pointer (some ⟨b72, 0, none⟩)), (7, .int .i64 0), (8, .int .i64 t86), (9, .string (rdD t84 t86)), (16, .slice A82 t84.length c83), (17, .int .i64 t85), (18, .int .i64 t86)] ?_
   refine RegI.d ?_
   refine RunsI.g 1 [.c 29, .c 30, .blk 1, .c 35, .lp 18, .blk 0, .c 36, .sc 3] ?_
   refine RunsI.r ?_
   refine RegI.p 1 [(2, .pointer (some ⟨b71, 0, none⟩)), (5, .pointer (some ⟨b72, 0, none⟩)), (7, .int .i64 0), (8, .int .i64 t86), (16, .slice A82 t84.length c83), (17, .int .i64 t85), (18, .int .i64 t86), (23, .string (rdD t84 t86))] ?_
   refine RegI.enter 24 [2, 5, 7, 8, 16, 17, 18] [(2, .pointer (some ⟨b71, 0, none⟩)), (5, .pointer (some ⟨b72, 0, none⟩)), (7, .int .i64 0), (8, .int .i64 t86), (16, .slice A82 t84.length c83), (17, .int .i64 t85), (18, .int .i64 t86)] (by kernel_rfl) (by kernel_rfl) (by kernel_rfl) (by kernel_rfl) F21 21 rfl [.pointer (some ⟨b72, 0, none⟩), .string (rdD t84 t86)] (by kernel_rfl) (by kernel_rfl) ?_
   obtain ⟨j361, hJ362, h⟩ := of_let h
   have hj363 : ∀ (t351 : List Int) (t352 : Int) (t353 : Int) (t356 : List (Int × Int)) (t357 : Int) (t358 : Bool) (A349 : Option Addr) (c350 : Nat) (A354 : Option Addr) (c355 : Nat) (w360 : World), j361 (t351, t352, t353, t356, t357, t358) = some x → Holds M0 w0 w360 [box b71 29 [.slice none 0 0, .int .i64 0, .int .i64 0, .slice none 0 0, .int .u16 0], box b72 29 [.slice A349 t351.length c350, .int .i64 t352, .int .i64 t353, .slice A354 t356.length c355, .int .u16 t357], own (Rp.int .u8) 5 (.slice A349 t351.length c350) t351, sl (Rp.pair (Rp.int .i64) (Rp.int .u8)) (.slice A354 t356.length c355) t356, own Rp.str 9 (.slice A82 t84.length c83) t84] → RegI F7 29 [.c 30, .blk 1, .c 35, .lp 18, .blk 0, .c 36, .sc 3] 2 [(2, .pointer (some ⟨b71, 0, none⟩)), (5, .pointer (some ⟨b72, 0, none⟩)), (7, .int .i64 0), (8, .int .i64 t86), (16, .slice A82 t84.length c83), (17, .int .i64 t85), (18, .int .i64 t86), (24, .bool t358)] w360 R := by
    intro t351 t352 t353 t356 t357 t358 A349 c350 A354 c355 w360 h h359
    rw [hJ362] at h
    clear hJ362
    dsimp only at h
    refine RegI.p 1 [(2, .pointer (some ⟨b71, 0, none⟩)), (5, .pointer (some ⟨b72, 0, none⟩)), (7, .int .i64 0), (8, .int .i64 t86), (16, .slice A82 t84.length c83), (17, .int .i64 t85), (18, .int .i64 t86), (25, .bool (!t358))] ?_
    refine RegI.d ?_
    rcases of_cond h with ⟨hc364, h⟩ | ⟨hc364, h⟩
    ·skip
     refine RunsI.f 25 true hc364 ?_
     refine RunsI.b true 31 ?_
     refine RunsI.g 1 [.c 32, .c 33, .blk 1, .c 35, .lp 18, .blk 0, .c 36, .sc 3] ?_
     refine RunsI.r ?_
     refine RegI.p 4 [(2, .pointer (some ⟨b71, 0, none⟩)), (6, .int .i64 300), (7, .int .i64 (IntKind.wrap .i64 (t86 + 1)))] ?_
     refine RegI.d ?_
     refine RunsI.goto [.c 48, .sc 3] (by kernel_rfl) ?_
     refine RunsI.l [2, 6, 7] [(2, .pointer (some ⟨b71, 0, none⟩)), (6, .int .i64 300), (7, .int .i64 (IntKind.wrap .i64 (t86 + 1)))] ?_
     exact hk1 (IntKind.wrap .i64 (t86 + 1)) w360 (Option.some.inj h).symm (h359.pick [0] (by decide))
    ·skip
     refine RunsI.f 25 false hc364 ?_
     refine RunsI.b false 34 ?_
     refine RunsI.g 1 [.blk 1, .c 35, .lp 18, .blk 0, .c 36, .sc 3] ?_
     refine RunsI.g 1 [.c 35, .lp 18, .blk 0, .c 36, .sc 3] ?_
     refine RunsI.r ?_
     refine RegI.p 2 [(2, .pointer (some ⟨b71, 0, none⟩)), (5, .pointer (some ⟨b72, 0, none⟩)), (7, .int .i64 0), (16, .slice A82 t84.length c83), (17, .int .i64 t85), (18, .int .i64 (IntKind.wrap .i64 (t86 + 1)))] ?_
     refine RegI.d ?_
     refine RunsI.g 1 [.c 18, .lp 18, .blk 0, .c 36, .sc 3] ?_
     refine RunsI.l [2, 5, 7, 16, 17, 18] [(2, .pointer (some ⟨b71, 0, none⟩)), (5, .pointer (some ⟨b72, 0, none⟩)), (7, .int .i64 0), (16, .slice A82 t84.length c83), (17, .int .i64 t85), (18, .int .i64 (IntKind.wrap .i64 (t86 + 1)))] ?_
     exact ih t351 t352 t353 t356 t357 (IntKind.wrap .i64 (t86 + 1)) A349 c350 A354 c355 w360 h (h359.pick [0, 1, 2, 3, 4] (by decide))
   clear hJ362
   refine RunsI.g 1 [.c 1, .c 2] ?_
   refine RunsI.r ?_
   refine RegI.o (OpE.box 2 80 [.pointer (some ⟨b72, 0, none⟩)] hH (by kernel_rfl) (by kernel_rfl) ?_)
   intro w91 b92 h93 hb94 hn95
   refine RegI.p 1 [(1, .string (rdD t84 t86)), (2, .pointer (some ⟨b92, 0, none⟩))] ?_
   refine RegI.d ?_
   refine RunsI.g 2 [.c 4, .c 5, .c 10] ?_
   refine RunsI.r ?_
   refine RegI.p 3 [(1, .string (rdD t84 t86)), (2, .pointer (some ⟨b92, 0, none⟩)), (12, .bool ((ByteArray.toList (rdD t84 t86)) == (ByteArray.toList (⟨#[]⟩ : ByteArray))))] ?_
   obtain ⟨j105, hJ106, h⟩ := of_let h
   have hj107 : ∀ (t102 : Bool) (w104 : World), j105 t102 = some x → Holds M0 w0 w104 [box b92 80 [.pointer (some ⟨b72, 0, none⟩)], box b72 29 [.slice A73 t75.length c74, .int .i64 t76, .int .i64 t77, .slice A78 t80.length c79, .int .u16 t81], own (Rp.int .u8) 5 (.slice A73 t75.length c74) t75, sl (Rp.pair (Rp.int .i64) (Rp.int .u8)) (.slice A78 t80.length c79) t80, box b71 29 [.slice none 0 0, .int .i64 0, .int .i64 0, .slice none 0 0, .int .u16 0], own Rp.str 9 (.slice A82 t84.length c83) t84] → RegI F21 4 [.c 5, .c 10] 6 [(1, .string (rdD t84 t86)), (2, .pointer (some ⟨b92, 0, none⟩)), (15, .bool t102)] w104 (cont (fun e' w' => RegI F7 29 [.c 30, .blk 1, .c 35, .lp 18, .blk 0, .c 36, .sc 3] 2 e' w' R) 24 [(2, .pointer (some ⟨b71, 0, none⟩)), (5, .pointer (some ⟨b72, 0, none⟩)), (7, .int .i64 0), (8, .int .i64 t86), (16, .slice A82 t84.length c83), (17, .int .i64 t85), (18, .int .i64 t86)]) := by
    intro t102 w104 h h103
    rw [hJ106] at h
    clear hJ106
    dsimp only at h
    refine RegI.d ?_
    rcases of_cond h with ⟨hc108, h⟩ | ⟨hc108, h⟩
    ·skip
     refine RunsI.f 15 true hc108 ?_
     refine RunsI.b true 6 ?_
     refine RunsI.g 1 [.c 7, .c 8, .c 10] ?_
     refine RunsI.r ?_
     refine RegI.p 1 [(4, .bool true)] ?_
     refine RegI.d ?_
     refine RunsI.t (.bool true) ?_
     refine cont_mk ?_
     refine RegI.l [2, 5, 7, 8, 16, 17, 18, 24] [(2, .pointer (some ⟨b71, 0, none⟩)), (5, .pointer (some ⟨b72, 0, none⟩)), (7, .int .i64 0), (8, .int .i64 t86), (16, .slice A82 t84.length c83), (17, .int .i64 t85), (18, .int .i64 t86), (24, .bool true)] ?_
     exact hj363 t75 t76 t77 t80 t81 true A73 c74 A78 c79 w104 h (h103.pick [4, 1, 2, 3, 5] (by decide))
    ·skip
     refine RunsI.f 15 false hc108 ?_
     refine RunsI.b false 9 ?_
     refine RunsI.g 1 [.c 10] ?_
     refine RunsI.g 1 [.c 11, .c 12] ?_
     refine RunsI.r ?_
     refine RegI.p 1 [(2, .pointer (some ⟨b92, 0, none⟩)), (17, .string (rdD t84 t86))] ?_
     refine RegI.enter 18 [2] [(2, .pointer (some ⟨b92, 0, none⟩))] (by kernel_rfl) (by kernel_rfl) (by kernel_rfl) (by kernel_rfl) F37 37 rfl [.string (rdD t84 t86), .string (⟨#[32]⟩ : ByteArray)] (by kernel_rfl) (by kernel_rfl) ?_
     refine RunsI.g 1 [.c 1, .c 2] ?_
     refine RunsI.r ?_
     refine RegI.p 3 [(0, .string (rdD t84 t86)), (1, .string (⟨#[32]⟩ : ByteArray))] ?_
     refine RegI.d ?_
     refine RunsI.g 1 [.c 3, .c 4] ?_
     refine RunsI.r ?_
     refine RegI.p 2 [(7, .string (rdD t84 t86)), (8, .string (⟨#[32]⟩ : ByteArray))] ?_
     refine RegI.enter 9 [] [] (by kernel_rfl) (by kernel_rfl) (by kernel_rfl) (by kernel_rfl) F63 63 rfl [.string (rdD t84 t86), .string (⟨#[32]⟩ : ByteArray)] (by kernel_rfl) (by kernel_rfl) ?_
     obtain ⟨j129, hJ130, h⟩ := of_let h
     have hj131 : ∀ (t124 : ByteArray) (t125 : ByteArray) (t126 : Bool) (w128 : World), j129 (t124, t125, t126) = some x → Holds M0 w0 w128 [box b71 29 [.slice none 0 0, .int .i64 0, .int .i64 0, .slice none 0 0, .int .u16 0], box b72 29 [.slice A73 t75.length c74, .int .i64 t76, .int .i64 t77, .slice A78 t80.length c79, .int .u16 t81], own (Rp.int .u8) 5 (.slice A73 t75.length c74) t75, sl (Rp.pair (Rp.int .i64) (Rp.int .u8)) (.slice A78 t80.length c79) t80, own Rp.str 9 (.slice A82 t84.length c83) t84, box b92 80 [.pointer (some ⟨b72, 0, none⟩)]] → RegI F37 3 [.c 4] 3 [(9, .tuple #[.string t124, .string t125, .bool t126])] w128 (cont (fun e' w' => RegI F21 11 [.c 12] 2 e' w' (cont (fun e' w' => RegI F7 29 [.c 30, .blk 1, .c 35, .lp 18, .blk 0, .c 36, .sc 3] 2 e' w' R) 24 [(2, .pointer (some ⟨b71, 0, none⟩)), (5, .pointer (some ⟨b72, 0, none⟩)), (7, .int .i64 0), (8, .int .i64 t86), (16, .slice A82 t84.length c83), (17, .int .i64 t85), (18, .int .i64 t86)])) 18 [(2, .pointer (some ⟨b92, 0, none⟩))]) := by
      intro t124 t125 t126 w128 h h127
      rw [hJ130] at h
      clear hJ130
      dsimp only at h
      refine RegI.p 6 [(4, .string t124), (5, .string t125), (6, .bool t126)] ?_
      refine RegI.d ?_
      refine RunsI.t (.tuple #[.string t124, .string t125, .bool t126]) ?_
      refine cont_mk ?_
      refine RegI.p 4 [(2, .pointer (some ⟨b92, 0, none⟩)), (19, .string t124), (20, .string t125), (21, .bool t126)] ?_
      refine RegI.o (OpE.box 6 9 [.string ByteArray.empty] h127 (by kernel_rfl) (by kernel_rfl) ?_)
      intro w132 b133 h134 hb135 hn136
      refine RegI.p 1 [(2, .pointer (some ⟨b92, 0, none⟩)), (5, .string t124), (6, .pointer (some ⟨b133, 0, none⟩)), (20, .string t125), (21, .bool t126)] ?_
      refine RegI.o (OpE.storeBox 6 9 b133 0 (.string t125) [.string t125] h134 (by kernel_rfl) (by kernel_rfl) rfl (by kernel_rfl) (by kernel_rfl) (by kernel_rfl) ?_)
      intro w137 h138 hk139
      refine RegI.p 1 [(2, .pointer (some ⟨b92, 0, none⟩)), (5, .string t124), (6, .pointer (some ⟨b133, 0, none⟩)), (7, .bool t126)] ?_
      refine RegI.d ?_
      refine RunsI.g 1 [.c 13, .c 14] ?_
      refine RunsI.r ?_
      refine RegI.o (OpE.makeMap 23 ekS (fun (v : Value) => v) h138 (by kernel_rfl) (by kernel_rfl) ?_)
      intro w140 b141 h142 hb143 hn144
      refine RegI.p 1 [(2, .pointer (some ⟨b92, 0, none⟩)), (5, .string t124), (6, .pointer (some ⟨b133, 0, none⟩)), (7, .bool t126), (23, .map (some b141)), (24, .func (.func 38) #[] #[.pointer (some ⟨b133, 0, none⟩), .pointer (some ⟨b92, 0, none⟩)])] ?_
      refine RegI.o (OpE.mapSet (ek := ekS) (ev := (fun (v : Value) => v)) 7 87 9 23 (⟨#[98, 97, 110, 107, 115]⟩ : ByteArray) (.func (.func 38) #[] #[.pointer (some ⟨b133, 0, none⟩), .pointer (some ⟨b92, 0, none⟩)]) h142 (by kernel_rfl) rfl (by kernel_rfl) rfl rfl (by kernel_rfl) (KeyOk.str Tryd.underlying9) [((⟨#[98, 97, 110, 107, 115]⟩ : ByteArray), .func (.func 38) #[] #[.pointer (some ⟨b133, 0, none⟩), .pointer (some ⟨b92, 0, none⟩)])] (by kernel_rfl) ?_)
      intro w145 h146 hk147
      refine RegI.p 1 [(2, .pointer (some ⟨b92, 0, none⟩)), (5, .string t124), (6, .pointer (some ⟨b133, 0, none⟩)), (7, .bool t126), (23, .map (some b141)), (25, .func (.func 40) #[] #[.pointer (some ⟨b133, 0, none⟩), .pointer (some ⟨b92, 0, none⟩)])] ?_
      refine RegI.o (OpE.mapSet (ek := ekS) (ev := (fun (v : Value) => v)) 7 87 9 23 (⟨#[98, 97, 110, 107]⟩ : ByteArray) (.func (.func 40) #[] #[.pointer (some ⟨b133, 0, none⟩), .pointer (some ⟨b92, 0, none⟩)]) h146 (by kernel_rfl) rfl (by kernel_rfl) rfl rfl (by kernel_rfl) (KeyOk.str Tryd.underlying9) [((⟨#[98, 97, 110, 107, 115]⟩ : ByteArray), .func (.func 38) #[] #[.pointer (some ⟨b133, 0, none⟩), .pointer (some ⟨b92, 0, none⟩)]), ((⟨#[98, 97, 110, 107]⟩ : ByteArray), .func (.func 40) #[] #[.pointer (some ⟨b133, 0, none⟩), .pointer (some ⟨b92, 0, none⟩)])] (by kernel_rfl) ?_)
      intro w148 h149 hk150
      refine RegI.p 1 [(2, .pointer (some ⟨b92, 0, none⟩)), (5, .string t124), (6, .pointer (some ⟨b133, 0, none⟩)), (7, .bool t126), (23, .map (some b141)), (26, .func (.func 41) #[] #[.pointer (some ⟨b133, 0, none⟩), .pointer (some ⟨b92, 0, none⟩)])] ?_
      refine RegI.o (OpE.mapSet (ek := ekS) (ev := (fun (v : Value) => v)) 7 87 9 23 (⟨#[112, 99]⟩ : ByteArray) (.func (.func 41) #[] #[.pointer (some ⟨b133, 0, none⟩), .pointer (some ⟨b92, 0, none⟩)]) h149 (by kernel_rfl) rfl (by kernel_rfl) rfl rfl (by kernel_rfl) (KeyOk.str Tryd.underlying9) [((⟨#[98, 97, 110, 107, 115]⟩ : ByteArray), .func (.func 38) #[] #[.pointer (some ⟨b133, 0, none⟩), .pointer (some ⟨b92, 0, none⟩)]), ((⟨#[98, 97, 110, 107]⟩ : ByteArray), .func (.func 40) #[] #[.pointer (some ⟨b133, 0, none⟩), .pointer (some ⟨b92, 0, none⟩)]), ((⟨#[112, 99]⟩ : ByteArray), .func (.func 41) #[] #[.pointer (some ⟨b133, 0, none⟩), .pointer (some ⟨b92, 0, none⟩)])] (by kernel_rfl) ?_)
      intro w151 h152 hk153
      refine RegI.p 1 [(2, .pointer (some ⟨b92, 0, none⟩)), (5, .string t124), (6, .pointer (some ⟨b133, 0, none⟩)), (7, .bool t126), (23, .map (some b141)), (27, .func (.func 42) #[] #[.pointer (some ⟨b133, 0, none⟩), .pointer (some ⟨b92, 0, none⟩)])] ?_
      refine RegI.o (OpE.mapSet (ek := ekS) (ev := (fun (v : Value) => v)) 7 87 9 23 (⟨#[114, 111, 109]⟩ : ByteArray) (.func (.func 42) #[] #[.pointer (some ⟨b133, 0, none⟩), .pointer (some ⟨b92, 0, none⟩)]) h152 (by kernel_rfl) rfl (by kernel_rfl) rfl rfl (by kernel_rfl) (KeyOk.str Tryd.underlying9) [((⟨#[98, 97, 110, 107, 115]⟩ : ByteArray), .func (.func 38) #[] #[.pointer (some ⟨b133, 0, none⟩), .pointer (some ⟨b92, 0, none⟩)]), ((⟨#[98, 97, 110, 107]⟩ : ByteArray), .func (.func 40) #[] #[.pointer (some ⟨b133, 0, none⟩), .pointer (some ⟨b92, 0, none⟩)]), ((⟨#[112, 99]⟩ : ByteArray), .func (.func 41) #[] #[.pointer (some ⟨b133, 0, none⟩), .pointer (some ⟨b92, 0, none⟩)]), ((⟨#[114, 111, 109]⟩ : ByteArray), .func (.func 42) #[] #[.pointer (some ⟨b133, 0, none⟩), .pointer (some ⟨b92, 0, none⟩)])] (by kernel_rfl) ?_)
      intro w154 h155 hk156
      refine RegI.p 1 [(5, .string t124), (7, .bool t126), (23, .map (some b141)), (28, .func (.func 43) #[] #[.pointer (some ⟨b133, 0, none⟩), .pointer (some ⟨b92, 0, none⟩)])] ?_
      refine RegI.o (OpE.mapSet (ek := ekS) (ev := (fun (v : Value) => v)) 7 87 9 23 (⟨#[114, 97, 109]⟩ : ByteArray) (.func (.func 43) #[] #[.pointer (some ⟨b133, 0, none⟩), .pointer (some ⟨b92, 0, none⟩)]) h155 (by kernel_rfl) rfl (by kernel_rfl) rfl rfl (by kernel_rfl) (KeyOk.str Tryd.underlying9) [((⟨#[98, 97, 110, 107, 115]⟩ : ByteArray), .func (.func 38) #[] #[.pointer (some ⟨b133, 0, none⟩), .pointer (some ⟨b92, 0, none⟩)]), ((⟨#[98, 97, 110, 107]⟩ : ByteArray), .func (.func 40) #[] #[.pointer (some ⟨b133, 0, none⟩), .pointer (some ⟨b92, 0, none⟩)]), ((⟨#[112, 99]⟩ : ByteArray), .func (.func 41) #[] #[.pointer (some ⟨b133, 0, none⟩), .pointer (some ⟨b92, 0, none⟩)]), ((⟨#[114, 111, 109]⟩ : ByteArray), .func (.func 42) #[] #[.pointer (some ⟨b133, 0, none⟩), .pointer (some ⟨b92, 0, none⟩)]), ((⟨#[114, 97, 109]⟩ : ByteArray), .func (.func 43) #[] #[.pointer (some ⟨b133, 0, none⟩), .pointer (some ⟨b92, 0, none⟩)])] (by kernel_rfl) ?_)
      intro w157 h158 hk159
      refine RegI.p 2 [(7, .bool t126), (29, .map (some b141)), (30, .string t124)] ?_
      rcases of_cond h with ⟨hc160, h⟩ | ⟨hc160, h⟩
      ·skip
       refine RegI.o (OpE.lookup (ek := ekS) (ev := (fun (v : Value) => v)) (zv := .nilFunc) 31 7 87 9 23 t124 (.tuple #[.func (.func 38) #[] #[.pointer (some ⟨b133, 0, none⟩), .pointer (some ⟨b92, 0, none⟩)], .bool true]) true h158 (by kernel_rfl) rfl (by kernel_rfl) rfl (by kernel_rfl) (KeyOk.str Tryd.underlying9) (fun _ => by kernel_rfl) (by simp only [findK, hc160, cond_true, cond_false, Option.map_some, Option.map_none, Option.getD_some, Option.getD_none, Option.isSome_some, Option.isSome_none]) ?_)
       refine RegI.p 5 [(7, .bool t126), (8, .func (.func 38) #[] #[.pointer (some ⟨b133, 0, none⟩), .pointer (some ⟨b92, 0, none⟩)]), (9, .bool true)] ?_
       refine RegI.d ?_
       refine RunsI.g 1 [.c 15, .c 16] ?_
       refine RunsI.r ?_
       refine RegI.p 2 [(8, .func (.func 38) #[] #[.pointer (some ⟨b133, 0, none⟩), .pointer (some ⟨b92, 0, none⟩)]), (9, .bool true), (35, .bool t126)] ?_
       rcases of_cond h with ⟨hc161, h⟩ | ⟨hc161, h⟩
       ·skip
        refine RegI.f 35 true hc161 ?_
        refine RegI.p 4 [(38, .bool true), (39, .func (.func 38) #[] #[.pointer (some ⟨b133, 0, none⟩), .pointer (some ⟨b92, 0, none⟩)])] ?_
        refine RegI.enter 40 [38] [(38, .bool true)] (by kernel_rfl) (by kernel_rfl) (by kernel_rfl) (by kernel_rfl) F38 38 rfl [.pointer (some ⟨b133, 0, none⟩), .pointer (some ⟨b92, 0, none⟩)] (by kernel_rfl) (by kernel_rfl) ?_
        refine RunsI.g 1 [.c 1, .c 2] ?_
        refine RunsI.r ?_
        refine RegI.p 1 [(0, .pointer (some ⟨b133, 0, none⟩)), (1, .pointer (some ⟨b92, 0, none⟩))] ?_
        refine RegI.d ?_
        refine RunsI.g 1 [.c 3, .c 4] ?_
        refine RunsI.any 11 (by kernel_rfl) (by kernel_rfl) (by kernel_rfl) (Kp (mines (pick [box b71 29 [.slice none 0 0, .int .i64 0, .int .i64 0, .slice none 0 0, .int .u16 0], box b72 29 [.slice A73 t75.length c74, .int .i64 t76, .int .i64 t77, .slice A78 t80.length c79, .int .u16 t81], own (Rp.int .u8) 5 (.slice A73 t75.length c74) t75, sl (Rp.pair (Rp.int .i64) (Rp.int .u8)) (.slice A78 t80.length c79) t80, own Rp.str 9 (.slice A82 t84.length c83) t84, box b92 80 [.pointer (some ⟨b72, 0, none⟩)], box b133 9 [.string t125], mp ekS (fun (v : Value) => v) b141 [((⟨#[98, 97, 110, 107, 115]⟩ : ByteArray), .func (.func 38) #[] #[.pointer (some ⟨b133, 0, none⟩), .pointer (some ⟨b92, 0, none⟩)]), ((⟨#[98, 97, 110, 107]⟩ : ByteArray), .func (.func 40) #[] #[.pointer (some ⟨b133, 0, none⟩), .pointer (some ⟨b92, 0, none⟩)]), ((⟨#[112, 99]⟩ : ByteArray), .func (.func 41) #[] #[.pointer (some ⟨b133, 0, none⟩), .pointer (some ⟨b92, 0, none⟩)]), ((⟨#[114, 111, 109]⟩ : ByteArray), .func (.func 42) #[] #[.pointer (some ⟨b133, 0, none⟩), .pointer (some ⟨b92, 0, none⟩)]), ((⟨#[114, 97, 109]⟩ : ByteArray), .func (.func 43) #[] #[.pointer (some ⟨b133, 0, none⟩), .pointer (some ⟨b92, 0, none⟩)])]] [1])) (World.drew w157)) ?_
        have h163 := h158.drew
        generalize World.drew w157 = w162 at h163 ⊢
        have hS164 := Kp.refl (mines (pick [box b71 29 [.slice none 0 0, .int .i64 0, .int .i64 0, .slice none 0 0, .int .u16 0], box b72 29 [.slice A73 t75.length c74, .int .i64 t76, .int .i64 t77, .slice A78 t80.length c79, .int .u16 t81], own (Rp.int .u8) 5 (.slice A73 t75.length c74) t75, sl (Rp.pair (Rp.int .i64) (Rp.int .u8)) (.slice A78 t80.length c79) t80, own Rp.str 9 (.slice A82 t84.length c83) t84, box b92 80 [.pointer (some ⟨b72, 0, none⟩)], box b133 9 [.string t125], mp ekS (fun (v : Value) => v) b141 [((⟨#[98, 97, 110, 107, 115]⟩ : ByteArray), .func (.func 38) #[] #[.pointer (some ⟨b133, 0, none⟩), .pointer (some ⟨b92, 0, none⟩)]), ((⟨#[98, 97, 110, 107]⟩ : ByteArray), .func (.func 40) #[] #[.pointer (some ⟨b133, 0, none⟩), .pointer (some ⟨b92, 0, none⟩)]), ((⟨#[112, 99]⟩ : ByteArray), .func (.func 41) #[] #[.pointer (some ⟨b133, 0, none⟩), .pointer (some ⟨b92, 0, none⟩)]), ((⟨#[114, 111, 109]⟩ : ByteArray), .func (.func 42) #[] #[.pointer (some ⟨b133, 0, none⟩), .pointer (some ⟨b92, 0, none⟩)]), ((⟨#[114, 97, 109]⟩ : ByteArray), .func (.func 43) #[] #[.pointer (some ⟨b133, 0, none⟩), .pointer (some ⟨b92, 0, none⟩)])]] [1])) w162
        refine AnyE.loadBox 0 4 5 80 b92 0 (.pointer (some ⟨b72, 0, none⟩)) [1] h163 rfl (by kernel_rfl) hS164 rfl rfl (by kernel_rfl) (by kernel_rfl) ?_
        refine AnyE.loadBox 1 5 6 9 b133 0 (.string t125) [1] h163 rfl (by kernel_rfl) hS164 rfl rfl (by kernel_rfl) (by kernel_rfl) ?_
        obtain ⟨⟨t167, t168⟩, hg166, h⟩ := of_bind h
        dsimp only at h
        refine AnyE.call 2 6 (.tuple #[.int .i64 t167, .bool t168]) 39 #[.string t125] (by kernel_rfl) hS164 (fun _ => by kernel_rfl) (fun w hk => image_few_39_ok K (fun _ => False) w t125 (fun _ hf => hf.elim) hg166) ?_
        refine AnyE.pure 3 3 (.tuple #[.int .i64 t167, .bool t168]) (by kernel_rfl) hS164 (fun _ => by kernel_rfl) ?_
        refine AnyE.pure 4 7 (.int .i64 t167) (by kernel_rfl) hS164 (fun _ => by kernel_rfl) ?_
        refine AnyE.pure 5 8 (.bool t168) (by kernel_rfl) hS164 (fun _ => by kernel_rfl) ?_
        refine AnyE.pure 6 9 (.pointer (some ⟨b72, 0, none⟩)) (by kernel_rfl) hS164 (fun _ => by kernel_rfl) ?_
        refine AnyE.pure 7 10 (.pointer (some ⟨b72, 0, none⟩)) (by kernel_rfl) hS164 (fun _ => by kernel_rfl) ?_
        refine AnyE.pure 8 11 (.pointer (some ⟨b72, 1, none⟩)) (by kernel_rfl) hS164 (fun _ => by kernel_rfl) ?_
        refine AnyE.one 9 (by kernel_rfl) (fun w169 hu170 => ?_)
        have h171 := h163.call hu170
        have hS172 := hS164.up hu170
        refine OpE.storeBox 1 3 b72 1 (.int .i64 t167) [.slice A73 t75.length c74, .int .i64 t167, .int .i64 t77, .slice A78 t80.length c79, .int .u16 t81] h171 (by kernel_rfl) (by kernel_rfl) rfl (by kernel_rfl) (by kernel_rfl) (by kernel_rfl) ?_
        intro w173 h174 hk175
        have hS176 := hS172.trans hk175 (Kp.turned h163 [1] rfl 1 rfl rfl)
        refine ⟨hS176, ?_⟩
        refine AnyE.pure 10 2 (.bool t168) (by kernel_rfl) hS176 (fun _ => by kernel_rfl) ?_
        refine AnyE.done (by kernel_rfl) (fun w177 hu178 => ?_)
        have h179 := h174.call hu178
        refine RunsI.l [2] [(2, .bool t168)] ?_
        refine RunsI.g 1 [.c 5, .c 6] ?_
        refine RunsI.r ?_
        refine RegI.p 2 [(2, .bool t168)] ?_
        refine RegI.d ?_
        refine RunsI.t (.bool t168) ?_
        refine cont_mk ?_
        refine RegI.p 2 [(4, .bool t168)] ?_
        refine RegI.d ?_
        refine RunsI.t (.bool t168) ?_
        refine cont_mk ?_
        refine RegI.l [2, 5, 7, 8, 16, 17, 18, 24] [(2, .pointer (some ⟨b71, 0, none⟩)), (5, .pointer (some ⟨b72, 0, none⟩)), (7, .int .i64 0), (8, .int .i64 t86), (16, .slice A82 t84.length c83), (17, .int .i64 t85), (18, .int .i64 t86), (24, .bool t168)] ?_
        exact hj363 t75 t167 t77 t80 t81 t168 A73 c74 A78 c79 w177 h (h179.pick [0, 1, 2, 3, 4] (by decide))
       ·skip
        refine RegI.f 35 false hc161 ?_
        refine RegI.p 7 [(4, .bool false)] ?_
        refine RegI.d ?_
        refine RunsI.t (.bool false) ?_
        refine cont_mk ?_
        refine RegI.l [2, 5, 7, 8, 16, 17, 18, 24] [(2, .pointer (some ⟨b71, 0, none⟩)), (5, .pointer (some ⟨b72, 0, none⟩)), (7, .int .i64 0), (8, .int .i64 t86), (16, .slice A82 t84.length c83), (17, .int .i64 t85), (18, .int .i64 t86), (24, .bool false)] ?_
        exact hj363 t75 t76 t77 t80 t81 false A73 c74 A78 c79 w157 h (h158.pick [0, 1, 2, 3, 4] (by decide))
      ·skip
       rcases of_cond h with ⟨hc180, h⟩ | ⟨hc180, h⟩
       ·skip
        refine RegI.o (OpE.lookup (ek := ekS) (ev := (fun (v : Value) => v)) (zv := .nilFunc) 31 7 87 9 23 t124 (.tuple #[.func (.func 40) #[] #[.pointer (some ⟨b133, 0, none⟩), .pointer (some ⟨b92, 0, none⟩)], .bool true]) true h158 (by kernel_rfl) rfl (by kernel_rfl) rfl (by kernel_rfl) (KeyOk.str Tryd.underlying9) (fun _ => by kernel_rfl) (by simp only [findK, hc160, hc180, cond_true, cond_false, Option.map_some, Option.map_none, Option.getD_some, Option.getD_none, Option.isSome_some, Option.isSome_none]) ?_)
        refine RegI.p 5 [(7, .bool t126), (8, .func (.func 40) #[] #[.pointer (some ⟨b133, 0, none⟩), .pointer (some ⟨b92, 0, none⟩)]), (9, .bool true)] ?_
        refine RegI.d ?_
        refine RunsI.g 1 [.c 15, .c 16] ?_
        refine RunsI.r ?_
        refine RegI.p 2 [(8, .func (.func 40) #[] #[.pointer (some ⟨b133, 0, none⟩), .pointer (some ⟨b92, 0, none⟩)]), (9, .bool true), (35, .bool t126)] ?_
        rcases of_cond h with ⟨hc181, h⟩ | ⟨hc181, h⟩
        ·skip
         refine RegI.f 35 true hc181 ?_
         refine RegI.p 4 [(38, .bool true), (39, .func (.func 40) #[] #[.pointer (some ⟨b133, 0, none⟩), .pointer (some ⟨b92, 0, none⟩)])] ?_
         refine RegI.enter 40 [38] [(38, .bool true)] (by kernel_rfl) (by kernel_rfl) (by kernel_rfl) (by kernel_rfl) F40 40 rfl [.pointer (some ⟨b133, 0, none⟩), .pointer (some ⟨b92, 0, none⟩)] (by kernel_rfl) (by kernel_rfl) ?_
         refine RunsI.g 1 [.c 1, .c 2] ?_
         refine RunsI.r ?_
         refine RegI.p 1 [(0, .pointer (some ⟨b133, 0, none⟩)), (1, .pointer (some ⟨b92, 0, none⟩))] ?_
         refine RegI.d ?_
         refine RunsI.g 1 [.c 3, .c 4] ?_
         refine RunsI.any 11 (by kernel_rfl) (by kernel_rfl) (by kernel_rfl) (Kp (mines (pick [box b71 29 [.slice none 0 0, .int .i64 0, .int .i64 0, .slice none 0 0, .int .u16 0], box b72 29 [.slice A73 t75.length c74, .int .i64 t76, .int .i64 t77, .slice A78 t80.length c79, .int .u16 t81], own (Rp.int .u8) 5 (.slice A73 t75.length c74) t75, sl (Rp.pair (Rp.int .i64) (Rp.int .u8)) (.slice A78 t80.length c79) t80, own Rp.str 9 (.slice A82 t84.length c83) t84, box b92 80 [.pointer (some ⟨b72, 0, none⟩)], box b133 9 [.string t125], mp ekS (fun (v : Value) => v) b141 [((⟨#[98, 97, 110, 107, 115]⟩ : ByteArray), .func (.func 38) #[] #[.pointer (some ⟨b133, 0, none⟩), .pointer (some ⟨b92, 0, none⟩)]), ((⟨#[98, 97, 110, 107]⟩ : ByteArray), .func (.func 40) #[] #[.pointer (some ⟨b133, 0, none⟩), .pointer (some ⟨b92, 0, none⟩)]), ((⟨#[112, 99]⟩ : ByteArray), .func (.func 41) #[] #[.pointer (some ⟨b133, 0, none⟩), .pointer (some ⟨b92, 0, none⟩)]), ((⟨#[114, 111, 109]⟩ : ByteArray), .func (.func 42) #[] #[.pointer (some ⟨b133, 0, none⟩), .pointer (some ⟨b92, 0, none⟩)]), ((⟨#[114, 97, 109]⟩ : ByteArray), .func (.func 43) #[] #[.pointer (some ⟨b133, 0, none⟩), .pointer (some ⟨b92, 0, none⟩)])]] [1])) (World.drew w157)) ?_
         have h183 := h158.drew
         generalize World.drew w157 = w182 at h183 ⊢
         have hS184 := Kp.refl (mines (pick [box b71 29 [.slice none 0 0, .int .i64 0, .int .i64 0, .slice none 0 0, .int .u16 0], box b72 29 [.slice A73 t75.length c74, .int .i64 t76, .int .i64 t77, .slice A78 t80.length c79, .int .u16 t81], own (Rp.int .u8) 5 (.slice A73 t75.length c74) t75, sl (Rp.pair (Rp.int .i64) (Rp.int .u8)) (.slice A78 t80.length c79) t80, own Rp.str 9 (.slice A82 t84.length c83) t84, box b92 80 [.pointer (some ⟨b72, 0, none⟩)], box b133 9 [.string t125], mp ekS (fun (v : Value) => v) b141 [((⟨#[98, 97, 110, 107, 115]⟩ : ByteArray), .func (.func 38) #[] #[.pointer (some ⟨b133, 0, none⟩), .pointer (some ⟨b92, 0, none⟩)]), ((⟨#[98, 97, 110, 107]⟩ : ByteArray), .func (.func 40) #[] #[.pointer (some ⟨b133, 0, none⟩), .pointer (some ⟨b92, 0, none⟩)]), ((⟨#[112, 99]⟩ : ByteArray), .func (.func 41) #[] #[.pointer (some ⟨b133, 0, none⟩), .pointer (some ⟨b92, 0, none⟩)]), ((⟨#[114, 111, 109]⟩ : ByteArray), .func (.func 42) #[] #[.pointer (some ⟨b133, 0, none⟩), .pointer (some ⟨b92, 0, none⟩)]), ((⟨#[114, 97, 109]⟩ : ByteArray), .func (.func 43) #[] #[.pointer (some ⟨b133, 0, none⟩), .pointer (some ⟨b92, 0, none⟩)])]] [1])) w182
         refine AnyE.loadBox 0 4 5 80 b92 0 (.pointer (some ⟨b72, 0, none⟩)) [1] h183 rfl (by kernel_rfl) hS184 rfl rfl (by kernel_rfl) (by kernel_rfl) ?_
         refine AnyE.loadBox 1 5 6 9 b133 0 (.string t125) [1] h183 rfl (by kernel_rfl) hS184 rfl rfl (by kernel_rfl) (by kernel_rfl) ?_
         obtain ⟨⟨t187, t188⟩, hg186, h⟩ := of_bind h
         dsimp only at h
         refine AnyE.call 2 6 (.tuple #[.int .i64 t187, .bool t188]) 39 #[.string t125] (by kernel_rfl) hS184 (fun _ => by kernel_rfl) (fun w hk => image_few_39_ok K (fun _ => False) w t125 (fun _ hf => hf.elim) hg186) ?_
         refine AnyE.pure 3 3 (.tuple #[.int .i64 t187, .bool t188]) (by kernel_rfl) hS184 (fun _ => by kernel_rfl) ?_
         refine AnyE.pure 4 7 (.int .i64 t187) (by kernel_rfl) hS184 (fun _ => by kernel_rfl) ?_
         refine AnyE.pure 5 8 (.bool t188) (by kernel_rfl) hS184 (fun _ => by kernel_rfl) ?_
         refine AnyE.pure 6 9 (.pointer (some ⟨b72, 0, none⟩)) (by kernel_rfl) hS184 (fun _ => by kernel_rfl) ?_
         refine AnyE.pure 7 10 (.pointer (some ⟨b72, 0, none⟩)) (by kernel_rfl) hS184 (fun _ => by kernel_rfl) ?_
         refine AnyE.pure 8 11 (.pointer (some ⟨b72, 2, none⟩)) (by kernel_rfl) hS184 (fun _ => by kernel_rfl) ?_
         refine AnyE.one 9 (by kernel_rfl) (fun w189 hu190 => ?_)
         have h191 := h183.call hu190
         have hS192 := hS184.up hu190
         refine OpE.storeBox 1 3 b72 2 (.int .i64 t187) [.slice A73 t75.length c74, .int .i64 t76, .int .i64 t187, .slice A78 t80.length c79, .int .u16 t81] h191 (by kernel_rfl) (by kernel_rfl) rfl (by kernel_rfl) (by kernel_rfl) (by kernel_rfl) ?_
         intro w193 h194 hk195
         have hS196 := hS192.trans hk195 (Kp.turned h183 [1] rfl 1 rfl rfl)
         refine ⟨hS196, ?_⟩
         refine AnyE.pure 10 2 (.bool t188) (by kernel_rfl) hS196 (fun _ => by kernel_rfl) ?_
         refine AnyE.done (by kernel_rfl) (fun w197 hu198 => ?_)
         have h199 := h194.call hu198
         refine RunsI.l [2] [(2, .bool t188)] ?_
         refine RunsI.g 1 [.c 5, .c 6] ?_
         refine RunsI.r ?_
         refine RegI.p 2 [(2, .bool t188)] ?_
         refine RegI.d ?_
         refine RunsI.t (.bool t188) ?_
         refine cont_mk ?_
         refine RegI.p 2 [(4, .bool t188)] ?_
         refine RegI.d ?_
         refine RunsI.t (.bool t188) ?_
         refine cont_mk ?_
         refine RegI.l [2, 5, 7, 8, 16, 17, 18, 24] [(2, .pointer (some ⟨b71, 0, none⟩)), (5, .pointer (some ⟨b72, 0, none⟩)), (7, .int .i64 0), (8, .int .i64 t86), (16, .slice A82 t84.length c83), (17, .int .i64 t85), (18, .int .i64 t86), (24, .bool t188)] ?_
         exact hj363 t75 t76 t187 t80 t81 t188 A73 c74 A78 c79 w197 h (h199.pick [0, 1, 2, 3, 4] (by decide))
        ·skip
         refine RegI.f 35 false hc181 ?_
         refine RegI.p 7 [(4, .bool false)] ?_
         refine RegI.d ?_
         refine RunsI.t (.bool false) ?_
         refine cont_mk ?_
         refine RegI.l [2, 5, 7, 8, 16, 17, 18, 24] [(2, .pointer (some ⟨b71, 0, none⟩)), (5, .pointer (some ⟨b72, 0, none⟩)), (7, .int .i64 0), (8, .int .i64 t86), (16, .slice A82 t84.length c83), (17, .int .i64 t85), (18, .int .i64 t86), (24, .bool false)] ?_
         exact hj363 t75 t76 t77 t80 t81 false A73 c74 A78 c79 w157 h (h158.pick [0, 1, 2, 3, 4] (by decide))
       ·skip
        rcases of_cond h with ⟨hc200, h⟩ | ⟨hc200, h⟩
        ·skip
         refine RegI.o (OpE.lookup (ek := ekS) (ev := (fun (v : Value) => v)) (zv := .nilFunc) 31 7 87 9 23 t124 (.tuple #[.func (.func 41) #[] #[.pointer (some ⟨b133, 0, none⟩), .pointer (some ⟨b92, 0, none⟩)], .bool true]) true h158 (by kernel_rfl) rfl (by kernel_rfl) rfl (by kernel_rfl) (KeyOk.str Tryd.underlying9) (fun _ => by kernel_rfl) (by simp only [findK, hc160, hc180, hc200, cond_true, cond_false, Option.map_some, Option.map_none, Option.getD_some, Option.getD_none, Option.isSome_some, Option.isSome_none]) ?_)
         refine RegI.p 5 [(7, .bool t126), (8, .func (.func 41) #[] #[.pointer (some ⟨b133, 0, none⟩), .pointer (some ⟨b92, 0, none⟩)]), (9, .bool true)] ?_
         refine RegI.d ?_
         refine RunsI.g 1 [.c 15, .c 16] ?_
         refine RunsI.r ?_
         refine RegI.p 2 [(8, .func (.func 41) #[] #[.pointer (some ⟨b133, 0, none⟩), .pointer (some ⟨b92, 0, none⟩)]), (9, .bool true), (35, .bool t126)] ?_
         rcases of_cond h with ⟨hc201, h⟩ | ⟨hc201, h⟩
         ·skip
          refine RegI.f 35 true hc201 ?_
          refine RegI.p 4 [(38, .bool true), (39, .func (.func 41) #[] #[.pointer (some ⟨b133, 0, none⟩), .pointer (some ⟨b92, 0, none⟩)])] ?_
          refine RegI.enter 40 [38] [(38, .bool true)] (by kernel_rfl) (by kernel_rfl) (by kernel_rfl) (by kernel_rfl) F41 41 rfl [.pointer (some ⟨b133, 0, none⟩), .pointer (some ⟨b92, 0, none⟩)] (by kernel_rfl) (by kernel_rfl) ?_
          refine RunsI.g 1 [.c 1, .c 2] ?_
          refine RunsI.r ?_
          refine RegI.p 1 [(0, .pointer (some ⟨b133, 0, none⟩)), (1, .pointer (some ⟨b92, 0, none⟩))] ?_
          refine RegI.d ?_
          refine RunsI.g 1 [.c 3, .c 4] ?_
          refine RunsI.r ?_
          refine RegI.o (OpE.loadBox 6 6 9 b133 0 (.string t125) h158 (by kernel_rfl) (by kernel_rfl) rfl (by kernel_rfl) ?_)
          obtain ⟨⟨t206, t207⟩, hg205, h⟩ := of_bind h
          dsimp only at h
          refine RegI.o (OpE.call 7 (by kernel_rfl) 24 #[.string t125, .int .i64 4] (by kernel_rfl) ((image_number_24_ok K _ w157  t125 4 h158.old' hg205).mono ?_))
          rintro _ w202 ⟨rfl, hb203⟩
          refine ⟨_, rfl, ?_⟩
          have h204 := h158.call hb203
          refine RegI.p 5 [(1, .pointer (some ⟨b92, 0, none⟩)), (3, .int .i64 t206), (4, .bool t207)] ?_
          refine RegI.d ?_
          refine RunsI.g 1 [.c 5, .c 6] ?_
          refine RunsI.r ?_
          refine RegI.o (OpE.loadBox 10 5 80 b92 0 (.pointer (some ⟨b72, 0, none⟩)) h204 (by kernel_rfl) (by kernel_rfl) rfl (by kernel_rfl) ?_)
          refine RegI.p 4 [(4, .bool t207), (12, .int .u16 (IntKind.wrap .u16 t206)), (14, .pointer (some ⟨b72, 4, none⟩))] ?_
          refine RegI.o (OpE.storeBox 1 27 b72 4 (.int .u16 (IntKind.wrap .u16 t206)) [.slice A73 t75.length c74, .int .i64 t76, .int .i64 t77, .slice A78 t80.length c79, .int .u16 (IntKind.wrap .u16 t206)] h204 (by kernel_rfl) (by kernel_rfl) rfl (by kernel_rfl) (by kernel_rfl) (by kernel_rfl) ?_)
          intro w208 h209 hk210
          refine RegI.d ?_
          refine RunsI.g 1 [.c 7, .c 8] ?_
          refine RunsI.r ?_
          refine RegI.p 2 [(2, .bool t207)] ?_
          refine RegI.d ?_
          refine RunsI.t (.bool t207) ?_
          refine cont_mk ?_
          refine RegI.p 2 [(4, .bool t207)] ?_
          refine RegI.d ?_
          refine RunsI.t (.bool t207) ?_
          refine cont_mk ?_
          refine RegI.l [2, 5, 7, 8, 16, 17, 18, 24] [(2, .pointer (some ⟨b71, 0, none⟩)), (5, .pointer (some ⟨b72, 0, none⟩)), (7, .int .i64 0), (8, .int .i64 t86), (16, .slice A82 t84.length c83), (17, .int .i64 t85), (18, .int .i64 t86), (24, .bool t207)] ?_
          exact hj363 t75 t76 t77 t80 (IntKind.wrap .u16 t206) t207 A73 c74 A78 c79 w208 h (h209.pick [0, 1, 2, 3, 4] (by decide))
         ·skip
          refine RegI.f 35 false hc201 ?_
          refine RegI.p 7 [(4, .bool false)] ?_
          refine RegI.d ?_
          refine RunsI.t (.bool false) ?_
          refine cont_mk ?_
          refine RegI.l [2, 5, 7, 8, 16, 17, 18, 24] [(2, .pointer (some ⟨b71, 0, none⟩)), (5, .pointer (some ⟨b72, 0, none⟩)), (7, .int .i64 0), (8, .int .i64 t86), (16, .slice A82 t84.length c83), (17, .int .i64 t85), (18, .int .i64 t86), (24, .bool false)] ?_
          exact hj363 t75 t76 t77 t80 t81 false A73 c74 A78 c79 w157 h (h158.pick [0, 1, 2, 3, 4] (by decide))
        ·skip
         rcases of_cond h with ⟨hc211, h⟩ | ⟨hc211, h⟩
         ·skip
          refine RegI.o (OpE.lookup (ek := ekS) (ev := (fun (v : Value) => v)) (zv := .nilFunc) 31 7 87 9 23 t124 (.tuple #[.func (.func 42) #[] #[.pointer (some ⟨b133, 0, none⟩), .pointer (some ⟨b92, 0, none⟩)], .bool true]) true h158 (by kernel_rfl) rfl (by kernel_rfl) rfl (by kernel_rfl) (KeyOk.str Tryd.underlying9) (fun _ => by kernel_rfl) (by simp only [findK, hc160, hc180, hc200, hc211, cond_true, cond_false, Option.map_some, Option.map_none, Option.getD_some, Option.getD_none, Option.isSome_some, Option.isSome_none]) ?_)
          refine RegI.p 5 [(7, .bool t126), (8, .func (.func 42) #[] #[.pointer (some ⟨b133, 0, none⟩), .pointer (some ⟨b92, 0, none⟩)]), (9, .bool true)] ?_
          refine RegI.d ?_
          refine RunsI.g 1 [.c 15, .c 16] ?_
          refine RunsI.r ?_
          refine RegI.p 2 [(8, .func (.func 42) #[] #[.pointer (some ⟨b133, 0, none⟩), .pointer (some ⟨b92, 0, none⟩)]), (9, .bool true), (35, .bool t126)] ?_
          rcases of_cond h with ⟨hc212, h⟩ | ⟨hc212, h⟩
          ·skip
           refine RegI.f 35 true hc212 ?_
           refine RegI.p 4 [(38, .bool true), (39, .func (.func 42) #[] #[.pointer (some ⟨b133, 0, none⟩), .pointer (some ⟨b92, 0, none⟩)])] ?_
           refine RegI.enter 40 [38] [(38, .bool true)] (by kernel_rfl) (by kernel_rfl) (by kernel_rfl) (by kernel_rfl) F42 42 rfl [.pointer (some ⟨b133, 0, none⟩), .pointer (some ⟨b92, 0, none⟩)] (by kernel_rfl) (by kernel_rfl) ?_
           refine RunsI.g 1 [.c 1, .c 2] ?_
           refine RunsI.r ?_
           refine RegI.p 1 [(0, .pointer (some ⟨b133, 0, none⟩)), (1, .pointer (some ⟨b92, 0, none⟩))] ?_
           refine RegI.d ?_
           refine RunsI.g 1 [.c 3, .c 4] ?_
           refine RunsI.r ?_
           refine RegI.o (OpE.loadBox 6 6 9 b133 0 (.string t125) h158 (by kernel_rfl) (by kernel_rfl) rfl (by kernel_rfl) ?_)
           obtain ⟨⟨t217, t221⟩, hg216, h⟩ := of_bind h
           dsimp only at h
           refine RegI.o (OpE.call 7 (by kernel_rfl) 9 #[.string t125] (by kernel_rfl) ((image_Bytes_9_ok K _ w157  t125 h158.old' hg216).mono ?_))
           rintro _ w213 ⟨A218, c219, rfl, hr222⟩
           refine ⟨_, rfl, ?_⟩
           have hb214 := hr222.below
           have h215 := h158.join hr222
           refine RegI.p 5 [(1, .pointer (some ⟨b92, 0, none⟩)), (3, .slice A218 t217.length c219), (4, .bool t221)] ?_
           refine RegI.d ?_
           refine RunsI.g 1 [.c 5, .c 6] ?_
           refine RunsI.any 12 (by kernel_rfl) (by kernel_rfl) (by kernel_rfl) (Kp (mines (pick [box b71 29 [.slice none 0 0, .int .i64 0, .int .i64 0, .slice none 0 0, .int .u16 0], box b72 29 [.slice A73 t75.length c74, .int .i64 t76, .int .i64 t77, .slice A78 t80.length c79, .int .u16 t81], own (Rp.int .u8) 5 (.slice A73 t75.length c74) t75, sl (Rp.pair (Rp.int .i64) (Rp.int .u8)) (.slice A78 t80.length c79) t80, own Rp.str 9 (.slice A82 t84.length c83) t84, box b92 80 [.pointer (some ⟨b72, 0, none⟩)], box b133 9 [.string t125], mp ekS (fun (v : Value) => v) b141 [((⟨#[98, 97, 110, 107, 115]⟩ : ByteArray), .func (.func 38) #[] #[.pointer (some ⟨b133, 0, none⟩), .pointer (some ⟨b92, 0, none⟩)]), ((⟨#[98, 97, 110, 107]⟩ : ByteArray), .func (.func 40) #[] #[.pointer (some ⟨b133, 0, none⟩), .pointer (some ⟨b92, 0, none⟩)]), ((⟨#[112, 99]⟩ : ByteArray), .func (.func 41) #[] #[.pointer (some ⟨b133, 0, none⟩), .pointer (some ⟨b92, 0, none⟩)]), ((⟨#[114, 111, 109]⟩ : ByteArray), .func (.func 42) #[] #[.pointer (some ⟨b133, 0, none⟩), .pointer (some ⟨b92, 0, none⟩)]), ((⟨#[114, 97, 109]⟩ : ByteArray), .func (.func 43) #[] #[.pointer (some ⟨b133, 0, none⟩), .pointer (some ⟨b92, 0, none⟩)])], own (Rp.int .u8) 5 (.slice A218 t217.length c219) t217] [2])) (World.drew w213)) ?_
           have h224 := h215.drew
           generalize World.drew w213 = w223 at h224 ⊢
           have hS225 := Kp.refl (mines (pick [box b71 29 [.slice none 0 0, .int .i64 0, .int .i64 0, .slice none 0 0, .int .u16 0], box b72 29 [.slice A73 t75.length c74, .int .i64 t76, .int .i64 t77, .slice A78 t80.length c79, .int .u16 t81], own (Rp.int .u8) 5 (.slice A73 t75.length c74) t75, sl (Rp.pair (Rp.int .i64) (Rp.int .u8)) (.slice A78 t80.length c79) t80, own Rp.str 9 (.slice A82 t84.length c83) t84, box b92 80 [.pointer (some ⟨b72, 0, none⟩)], box b133 9 [.string t125], mp ekS (fun (v : Value) => v) b141 [((⟨#[98, 97, 110, 107, 115]⟩ : ByteArray), .func (.func 38) #[] #[.pointer (some ⟨b133, 0, none⟩), .pointer (some ⟨b92, 0, none⟩)]), ((⟨#[98, 97, 110, 107]⟩ : ByteArray), .func (.func 40) #[] #[.pointer (some ⟨b133, 0, none⟩), .pointer (some ⟨b92, 0, none⟩)]), ((⟨#[112, 99]⟩ : ByteArray), .func (.func 41) #[] #[.pointer (some ⟨b133, 0, none⟩), .pointer (some ⟨b92, 0, none⟩)]), ((⟨#[114, 111, 109]⟩ : ByteArray), .func (.func 42) #[] #[.pointer (some ⟨b133, 0, none⟩), .pointer (some ⟨b92, 0, none⟩)]), ((⟨#[114, 97, 109]⟩ : ByteArray), .func (.func 43) #[] #[.pointer (some ⟨b133, 0, none⟩), .pointer (some ⟨b92, 0, none⟩)])], own (Rp.int .u8) 5 (.slice A218 t217.length c219) t217] [2])) w223
           refine AnyE.loadBox 0 10 5 80 b92 0 (.pointer (some ⟨b72, 0, none⟩)) [2] h224 rfl (by kernel_rfl) hS225 rfl rfl (by kernel_rfl) (by kernel_rfl) ?_
           refine AnyE.loadBox 1 11 5 80 b92 0 (.pointer (some ⟨b72, 0, none⟩)) [2] h224 rfl (by kernel_rfl) hS225 rfl rfl (by kernel_rfl) (by kernel_rfl) ?_
           refine AnyE.pure 2 12 (.pointer (some ⟨b72, 0, none⟩)) (by kernel_rfl) hS225 (fun _ => by kernel_rfl) ?_
           refine AnyE.pure 3 13 (.pointer (some ⟨b72, 0, none⟩)) (by kernel_rfl) hS225 (fun _ => by kernel_rfl) ?_
           refine AnyE.pure 4 14 (.pointer (some ⟨b72, 0, none⟩)) (by kernel_rfl) hS225 (fun _ => by kernel_rfl) ?_
           refine AnyE.loadBox 5 15 1 22 b72 0 (.slice A73 t75.length c74) [2] h224 rfl (by kernel_rfl) hS225 rfl rfl (by kernel_rfl) (by kernel_rfl) ?_
           refine AnyE.pure 6 16 (.slice A218 t217.length c219) (by kernel_rfl) hS225 (fun _ => by kernel_rfl) ?_
           refine AnyE.one 7 (by kernel_rfl) (fun w227 hu228 => ?_)
           have h229 := h224.call hu228
           have hS230 := hS225.up hu228
           obtain ⟨hc231, h⟩ := of_cond0 h
           refine OpE.appendRow 17 2 22 5 1 (ys := t217) h229 (by kernel_rfl) (by kernel_rfl) (by kernel_rfl) rfl (h229.rdOwn 8 rfl) hc231 ?_
           intro w232 A233 c234 h235 hk236
           have hS237 := hS230.trans hk236 (Kp.turned h224 [2] rfl 2 rfl rfl)
           refine ⟨hS237, ?_⟩
           refine AnyE.pure 8 18 (.pointer (some ⟨b72, 0, none⟩)) (by kernel_rfl) hS237 (fun _ => by kernel_rfl) ?_
           refine AnyE.pure 9 19 (.pointer (some ⟨b72, 0, none⟩)) (by kernel_rfl) hS237 (fun _ => by kernel_rfl) ?_
           refine AnyE.pure 10 20 (.pointer (some ⟨b72, 0, none⟩)) (by kernel_rfl) hS237 (fun _ => by kernel_rfl) ?_
           refine AnyE.last 11 (by kernel_rfl) (by kernel_rfl) (fun w238 hu239 => ?_)
           have h240 := h235.call hu239
           have hS241 := hS237.up hu239
           refine OpE.storeBox 1 22 b72 0 (.slice A233 ((t75 ++ t217).length) c234) [.slice A233 ((t75 ++ t217).length) c234, .int .i64 t76, .int .i64 t77, .slice A78 t80.length c79, .int .u16 t81] h240 (by kernel_rfl) (by kernel_rfl) rfl (by kernel_rfl) (by kernel_rfl) (by kernel_rfl) ?_
           intro w242 h243 hk244
           refine AnyE.done (by kernel_rfl) (fun w246 hu247 => ?_)
           have h248 := h243.call hu247
           refine RunsI.l [4] [(4, .bool t221)] ?_
           refine RunsI.g 1 [.c 7, .c 8] ?_
           refine RunsI.r ?_
           refine RegI.p 2 [(2, .bool t221)] ?_
           refine RegI.d ?_
           refine RunsI.t (.bool t221) ?_
           refine cont_mk ?_
           refine RegI.p 2 [(4, .bool t221)] ?_
           refine RegI.d ?_
           refine RunsI.t (.bool t221) ?_
           refine cont_mk ?_
           refine RegI.l [2, 5, 7, 8, 16, 17, 18, 24] [(2, .pointer (some ⟨b71, 0, none⟩)), (5, .pointer (some ⟨b72, 0, none⟩)), (7, .int .i64 0), (8, .int .i64 t86), (16, .slice A82 t84.length c83), (17, .int .i64 t85), (18, .int .i64 t86), (24, .bool t221)] ?_
           exact hj363 (t75 ++ t217) t76 t77 t80 t81 t221 A233 c234 A78 c79 w246 h (h248.pick [0, 1, 2, 3, 4] (by decide))
          ·skip
           refine RegI.f 35 false hc212 ?_
           refine RegI.p 7 [(4, .bool false)] ?_
           refine RegI.d ?_
           refine RunsI.t (.bool false) ?_
           refine cont_mk ?_
           refine RegI.l [2, 5, 7, 8, 16, 17, 18, 24] [(2, .pointer (some ⟨b71, 0, none⟩)), (5, .pointer (some ⟨b72, 0, none⟩)), (7, .int .i64 0), (8, .int .i64 t86), (16, .slice A82 t84.length c83), (17, .int .i64 t85), (18, .int .i64 t86), (24, .bool false)] ?_
           exact hj363 t75 t76 t77 t80 t81 false A73 c74 A78 c79 w157 h (h158.pick [0, 1, 2, 3, 4] (by decide))
         ·skip
          rcases of_cond h with ⟨hc249, h⟩ | ⟨hc249, h⟩
          ·skip
           refine RegI.o (OpE.lookup (ek := ekS) (ev := (fun (v : Value) => v)) (zv := .nilFunc) 31 7 87 9 23 t124 (.tuple #[.func (.func 43) #[] #[.pointer (some ⟨b133, 0, none⟩), .pointer (some ⟨b92, 0, none⟩)], .bool true]) true h158 (by kernel_rfl) rfl (by kernel_rfl) rfl (by kernel_rfl) (KeyOk.str Tryd.underlying9) (fun _ => by kernel_rfl) (by simp only [findK, hc160, hc180, hc200, hc211, hc249, cond_true, cond_false, Option.map_some, Option.map_none, Option.getD_some, Option.getD_none, Option.isSome_some, Option.isSome_none]) ?_)
           refine RegI.p 5 [(7, .bool t126), (8, .func (.func 43) #[] #[.pointer (some ⟨b133, 0, none⟩), .pointer (some ⟨b92, 0, none⟩)]), (9, .bool true)] ?_
           refine RegI.d ?_
           refine RunsI.g 1 [.c 15, .c 16] ?_
           refine RunsI.r ?_
           refine RegI.p 2 [(8, .func (.func 43) #[] #[.pointer (some ⟨b133, 0, none⟩), .pointer (some ⟨b92, 0, none⟩)]), (9, .bool true), (35, .bool t126)] ?_
           rcases of_cond h with ⟨hc250, h⟩ | ⟨hc250, h⟩
           ·skip
            refine RegI.f 35 true hc250 ?_
            refine RegI.p 4 [(38, .bool true), (39, .func (.func 43) #[] #[.pointer (some ⟨b133, 0, none⟩), .pointer (some ⟨b92, 0, none⟩)])] ?_
            refine RegI.enter 40 [38] [(38, .bool true)] (by kernel_rfl) (by kernel_rfl) (by kernel_rfl) (by kernel_rfl) F43 43 rfl [.pointer (some ⟨b133, 0, none⟩), .pointer (some ⟨b92, 0, none⟩)] (by kernel_rfl) (by kernel_rfl) ?_
            obtain ⟨j345, hJ346, h⟩ := of_let h
            have hj347 : ∀ (t337 : Bool) (t338 : Int) (t339 : Int) (t342 : List (Int × Int)) (A340 : Option Addr) (c341 : Nat) (w344 : World), j345 (t337, t338, t339, t342) = some x → Holds M0 w0 w344 [box b71 29 [.slice none 0 0, .int .i64 0, .int .i64 0, .slice none 0 0, .int .u16 0], box b72 29 [.slice A73 t75.length c74, .int .i64 t338, .int .i64 t339, .slice A340 t342.length c341, .int .u16 t81], own (Rp.int .u8) 5 (.slice A73 t75.length c74) t75, sl (Rp.pair (Rp.int .i64) (Rp.int .u8)) (.slice A340 t342.length c341) t342, own Rp.str 9 (.slice A82 t84.length c83) t84] → RegI F21 15 [.c 16] 7 [(38, .bool true), (40, .bool t337)] w344 (cont (fun e' w' => RegI F7 29 [.c 30, .blk 1, .c 35, .lp 18, .blk 0, .c 36, .sc 3] 2 e' w' R) 24 [(2, .pointer (some ⟨b71, 0, none⟩)), (5, .pointer (some ⟨b72, 0, none⟩)), (7, .int .i64 0), (8, .int .i64 t86), (16, .slice A82 t84.length c83), (17, .int .i64 t85), (18, .int .i64 t86)]) := by
             intro t337 t338 t339 t342 A340 c341 w344 h h343
             rw [hJ346] at h
             clear hJ346
             dsimp only at h
             refine RegI.p 2 [(4, .bool t337)] ?_
             refine RegI.d ?_
             refine RunsI.t (.bool t337) ?_
             refine cont_mk ?_
             refine RegI.l [2, 5, 7, 8, 16, 17, 18, 24] [(2, .pointer (some ⟨b71, 0, none⟩)), (5, .pointer (some ⟨b72, 0, none⟩)), (7, .int .i64 0), (8, .int .i64 t86), (16, .slice A82 t84.length c83), (17, .int .i64 t85), (18, .int .i64 t86), (24, .bool t337)] ?_
             exact hj363 t75 t338 t339 t342 t81 t337 A73 c74 A340 c341 w344 h (h343.pick [0, 1, 2, 3, 4] (by decide))
            clear hJ346
            refine RunsI.g 1 [.c 1, .c 2] ?_
            refine RunsI.r ?_
            refine RegI.p 1 [(0, .pointer (some ⟨b133, 0, none⟩)), (1, .pointer (some ⟨b92, 0, none⟩))] ?_
            refine RegI.d ?_
            refine RunsI.g 1 [.c 3, .c 4] ?_
            refine RunsI.r ?_
            refine RegI.o (OpE.loadBox 11 6 9 b133 0 (.string t125) h158 (by kernel_rfl) (by kernel_rfl) rfl (by kernel_rfl) ?_)
            refine RegI.enter 12 [1] [(1, .pointer (some ⟨b92, 0, none⟩))] (by kernel_rfl) (by kernel_rfl) (by kernel_rfl) (by kernel_rfl) F37 37 rfl [.string t125, .string (⟨#[32]⟩ : ByteArray)] (by kernel_rfl) (by kernel_rfl) ?_
            refine RunsI.g 1 [.c 1, .c 2] ?_
            refine RunsI.r ?_
            refine RegI.p 3 [(0, .string t125), (1, .string (⟨#[32]⟩ : ByteArray))] ?_
            refine RegI.d ?_
            refine RunsI.g 1 [.c 3, .c 4] ?_
            refine RunsI.r ?_
            refine RegI.p 2 [(7, .string t125), (8, .string (⟨#[32]⟩ : ByteArray))] ?_
            refine RegI.enter 9 [] [] (by kernel_rfl) (by kernel_rfl) (by kernel_rfl) (by kernel_rfl) F63 63 rfl [.string t125, .string (⟨#[32]⟩ : ByteArray)] (by kernel_rfl) (by kernel_rfl) ?_
            obtain ⟨j271, hJ272, h⟩ := of_let h
            have hj273 : ∀ (t266 : ByteArray) (t267 : ByteArray) (t268 : Bool) (w270 : World), j271 (t266, t267, t268) = some x → Holds M0 w0 w270 [box b71 29 [.slice none 0 0, .int .i64 0, .int .i64 0, .slice none 0 0, .int .u16 0], box b72 29 [.slice A73 t75.length c74, .int .i64 t76, .int .i64 t77, .slice A78 t80.length c79, .int .u16 t81], own (Rp.int .u8) 5 (.slice A73 t75.length c74) t75, sl (Rp.pair (Rp.int .i64) (Rp.int .u8)) (.slice A78 t80.length c79) t80, own Rp.str 9 (.slice A82 t84.length c83) t84, box b92 80 [.pointer (some ⟨b72, 0, none⟩)]] → RegI F37 3 [.c 4] 3 [(9, .tuple #[.string t266, .string t267, .bool t268])] w270 (cont (fun e' w' => RegI F43 3 [.c 4] 2 e' w' (cont (fun e' w' => RegI F21 15 [.c 16] 7 e' w' (cont (fun e' w' => RegI F7 29 [.c 30, .blk 1, .c 35, .lp 18, .blk 0, .c 36, .sc 3] 2 e' w' R) 24 [(2, .pointer (some ⟨b71, 0, none⟩)), (5, .pointer (some ⟨b72, 0, none⟩)), (7, .int .i64 0), (8, .int .i64 t86), (16, .slice A82 t84.length c83), (17, .int .i64 t85), (18, .int .i64 t86)])) 40 [(38, .bool true)])) 12 [(1, .pointer (some ⟨b92, 0, none⟩))]) := by
             intro t266 t267 t268 w270 h h269
             rw [hJ272] at h
             clear hJ272
             dsimp only at h
             refine RegI.p 6 [(4, .string t266), (5, .string t267), (6, .bool t268)] ?_
             refine RegI.d ?_
             refine RunsI.t (.tuple #[.string t266, .string t267, .bool t268]) ?_
             refine cont_mk ?_
             refine RegI.p 7 [(1, .pointer (some ⟨b92, 0, none⟩)), (3, .string t266), (4, .string t267), (5, .bool t268)] ?_
             refine RegI.d ?_
             refine RunsI.g 1 [.c 5, .c 6] ?_
             refine RunsI.r ?_
             refine RegI.p 1 [(1, .pointer (some ⟨b92, 0, none⟩)), (4, .string t267), (5, .bool t268), (17, .string t266)] ?_
             obtain ⟨⟨t278, t279⟩, hg277, h⟩ := of_bind h
             dsimp only at h
             refine RegI.o (OpE.call 18 (by kernel_rfl) 24 #[.string t266, .int .i64 5] (by kernel_rfl) ((image_number_24_ok K _ w270  t266 5 h269.old' hg277).mono ?_))
             rintro _ w274 ⟨rfl, hb275⟩
             refine ⟨_, rfl, ?_⟩
             have h276 := h269.call hb275
             refine RegI.p 5 [(1, .pointer (some ⟨b92, 0, none⟩)), (4, .string t267), (5, .bool t268), (6, .int .i64 t278), (7, .bool t279)] ?_
             refine RegI.d ?_
             refine RunsI.g 1 [.c 7, .c 8] ?_
             refine RunsI.r ?_
             refine RegI.p 1 [(1, .pointer (some ⟨b92, 0, none⟩)), (5, .bool t268), (6, .int .i64 t278), (7, .bool t279), (22, .string t267)] ?_
             obtain ⟨⟨t284, t288⟩, hg283, h⟩ := of_bind h
             dsimp only at h
             refine RegI.o (OpE.call 23 (by kernel_rfl) 9 #[.string t267] (by kernel_rfl) ((image_Bytes_9_ok K _ w274  t267 h276.old' hg283).mono ?_))
             rintro _ w280 ⟨A285, c286, rfl, hr289⟩
             refine ⟨_, rfl, ?_⟩
             have hb281 := hr289.below
             have h282 := h276.join hr289
             refine RegI.p 5 [(1, .pointer (some ⟨b92, 0, none⟩)), (5, .bool t268), (6, .int .i64 t278), (7, .bool t279), (8, .slice A285 t284.length c286), (9, .bool t288)] ?_
             refine RegI.d ?_
             refine RunsI.g 2 [.c 10, .c 11, .c 14] ?_
             refine RunsI.r ?_
             refine RegI.p 2 [(1, .pointer (some ⟨b92, 0, none⟩)), (5, .bool t268), (6, .int .i64 t278), (7, .bool t279), (8, .slice A285 t284.length c286), (9, .bool t288), (27, .bool t268)] ?_
             obtain ⟨j295, hJ296, h⟩ := of_let h
             have hj297 : ∀ (t292 : Bool) (w294 : World), j295 t292 = some x → Holds M0 w0 w294 [box b92 80 [.pointer (some ⟨b72, 0, none⟩)], box b72 29 [.slice A73 t75.length c74, .int .i64 t76, .int .i64 t77, .slice A78 t80.length c79, .int .u16 t81], own (Rp.int .u8) 5 (.slice A73 t75.length c74) t75, sl (Rp.pair (Rp.int .i64) (Rp.int .u8)) (.slice A78 t80.length c79) t80, own (Rp.int .u8) 5 (.slice A285 t284.length c286) t284, box b71 29 [.slice none 0 0, .int .i64 0, .int .i64 0, .slice none 0 0, .int .u16 0], own Rp.str 9 (.slice A82 t84.length c83) t84] → RegI F43 10 [.c 11, .c 14] 7 [(1, .pointer (some ⟨b92, 0, none⟩)), (5, .bool t268), (6, .int .i64 t278), (7, .bool t279), (8, .slice A285 t284.length c286), (9, .bool t288), (32, .bool t292)] w294 (cont (fun e' w' => RegI F21 15 [.c 16] 7 e' w' (cont (fun e' w' => RegI F7 29 [.c 30, .blk 1, .c 35, .lp 18, .blk 0, .c 36, .sc 3] 2 e' w' R) 24 [(2, .pointer (some ⟨b71, 0, none⟩)), (5, .pointer (some ⟨b72, 0, none⟩)), (7, .int .i64 0), (8, .int .i64 t86), (16, .slice A82 t84.length c83), (17, .int .i64 t85), (18, .int .i64 t86)])) 40 [(38, .bool true)]) := by
              intro t292 w294 h h293
              rw [hJ296] at h
              clear hJ296
              dsimp only at h
              refine RegI.d ?_
              rcases of_cond h with ⟨hc298, h⟩ | ⟨hc298, h⟩
              ·skip
               refine RunsI.f 32 true hc298 ?_
               refine RunsI.b true 12 ?_
               refine RunsI.any 11 (by kernel_rfl) (by kernel_rfl) (by kernel_rfl) (Kp ([] : List Nat) (World.drew w294)) ?_
               have h300 := h293.drew
               generalize World.drew w294 = w299 at h300 ⊢
               have hS301 := Kp.refl ([] : List Nat) w299
               refine AnyE.loadBox 0 33 0 80 b92 0 (.pointer (some ⟨b72, 0, none⟩)) [] h300 rfl (by kernel_rfl) hS301 rfl rfl (by kernel_rfl) (by kernel_rfl) ?_
               refine AnyE.loadBox 1 34 0 80 b92 0 (.pointer (some ⟨b72, 0, none⟩)) [] h300 rfl (by kernel_rfl) hS301 rfl rfl (by kernel_rfl) (by kernel_rfl) ?_
               refine AnyE.pure 2 35 (.pointer (some ⟨b72, 0, none⟩)) (by kernel_rfl) hS301 (fun _ => by kernel_rfl) ?_
               refine AnyE.pure 3 36 (.pointer (some ⟨b72, 0, none⟩)) (by kernel_rfl) hS301 (fun _ => by kernel_rfl) ?_
               refine AnyE.loadBox 4 37 1 26 b72 0 (.agg #[.slice A73 t75.length c74, .int .i64 t76, .int .i64 t77, .slice A78 t80.length c79]) [] h300 rfl (by kernel_rfl) hS301 rfl rfl (by kernel_rfl) (by kernel_rfl) ?_
               refine AnyE.pure 5 38 (.int .i64 t278) (by kernel_rfl) hS301 (fun _ => by kernel_rfl) ?_
               refine AnyE.pure 6 39 (.slice A285 t284.length c286) (by kernel_rfl) hS301 (fun _ => by kernel_rfl) ?_
               refine AnyE.one 7 (by kernel_rfl) (fun w303 hu304 => ?_)
               have h305 := h300.call hu304
               have hS306 := hS301.up hu304
               obtain ⟨⟨t312, t314, t315, t316⟩, hg311, h⟩ := of_bind h
               dsimp only at h
               have h307 := h305.release 4 rfl
               refine OpE.call 40 (by kernel_rfl) 44 #[.agg #[.slice A73 t75.length c74, .int .i64 t76, .int .i64 t77, .slice A78 t80.length c79], .int .i64 t278, .slice A285 t284.length c286] (by kernel_rfl) ((banks_Load_44_ok K _ w303  A73 c74 A78 c79 A285 c286 t75 t76 t77 t80 t278 t284 h307.old' (h307.get 3 rfl) (h307.get 4 rfl) hg311).mono ?_)
               rintro _ w308 ⟨A317, c318, rfl, hq313, hr320⟩
               have hq313 : t75 = t312 := hq313
               subst hq313
               refine ⟨_, rfl, ?_⟩
               have hb309 := hr320.below
               have h310 := h307.join hr320
               have hS321 := hS306.up hb309
               refine ⟨hS321, ?_⟩
               refine AnyE.pure 8 41 (.pointer (some ⟨b72, 0, none⟩)) (by kernel_rfl) hS321 (fun _ => by kernel_rfl) ?_
               refine AnyE.pure 9 42 (.pointer (some ⟨b72, 0, none⟩)) (by kernel_rfl) hS321 (fun _ => by kernel_rfl) ?_
               refine AnyE.last 10 (by kernel_rfl) (by kernel_rfl) (fun w322 hu323 => ?_)
               have h324 := h310.call hu323
               have hS325 := hS321.up hu323
               refine OpE.storeBox 1 26 b72 0 (.agg #[.slice A73 t75.length c74, .int .i64 t314, .int .i64 t315, .slice A317 t316.length c318]) [.slice A73 t75.length c74, .int .i64 t314, .int .i64 t315, .slice A317 t316.length c318, .int .u16 t81] h324 (by kernel_rfl) (by kernel_rfl) rfl (by kernel_rfl) (by kernel_rfl) (by kernel_rfl) ?_
               intro w326 h327 hk328
               refine AnyE.done (by kernel_rfl) (fun w330 hu331 => ?_)
               have h332 := h327.call hu331
               refine RunsI.l [5, 7, 9] [(5, .bool t268), (7, .bool t279), (9, .bool t288)] ?_
               refine RunsI.g 1 [.c 15, .c 16] ?_
               refine RunsI.r ?_
               refine RegI.p 2 [(7, .bool t279), (9, .bool t288), (44, .bool t268)] ?_
               rcases of_cond h with ⟨hc333, h⟩ | ⟨hc333, h⟩
               ·skip
                refine RegI.f 44 true hc333 ?_
                refine RegI.p 3 [(9, .bool t288), (47, .bool t279)] ?_
                rcases of_cond h with ⟨hc334, h⟩ | ⟨hc334, h⟩
                ·skip
                 refine RegI.f 47 true hc334 ?_
                 refine RegI.p 3 [(2, .bool t288)] ?_
                 refine RegI.d ?_
                 refine RunsI.t (.bool t288) ?_
                 refine cont_mk ?_
                 refine RegI.l [38, 40] [(38, .bool true), (40, .bool t288)] ?_
                 exact hj347 t288 t314 t315 t316 A317 c318 w330 h (h332.pick [5, 1, 2, 7, 6] (by decide))
                ·skip
                 refine RegI.f 47 false hc334 ?_
                 refine RegI.p 3 [(2, .bool false)] ?_
                 refine RegI.d ?_
                 refine RunsI.t (.bool false) ?_
                 refine cont_mk ?_
                 refine RegI.l [38, 40] [(38, .bool true), (40, .bool false)] ?_
                 exact hj347 false t314 t315 t316 A317 c318 w330 h (h332.pick [5, 1, 2, 7, 6] (by decide))
               ·skip
                refine RegI.f 44 false hc333 ?_
                refine RegI.p 6 [(2, .bool false)] ?_
                refine RegI.d ?_
                refine RunsI.t (.bool false) ?_
                refine cont_mk ?_
                refine RegI.l [38, 40] [(38, .bool true), (40, .bool false)] ?_
                exact hj347 false t314 t315 t316 A317 c318 w330 h (h332.pick [5, 1, 2, 7, 6] (by decide))
              ·skip
               refine RunsI.f 32 false hc298 ?_
               refine RunsI.b false 13 ?_
               refine RunsI.g 1 [.c 14] ?_
               refine RunsI.g 1 [.c 15, .c 16] ?_
               refine RunsI.r ?_
               refine RegI.p 2 [(7, .bool t279), (9, .bool t288), (44, .bool t268)] ?_
               rcases of_cond h with ⟨hc335, h⟩ | ⟨hc335, h⟩
               ·skip
                refine RegI.f 44 true hc335 ?_
                refine RegI.p 3 [(9, .bool t288), (47, .bool t279)] ?_
                rcases of_cond h with ⟨hc336, h⟩ | ⟨hc336, h⟩
                ·skip
                 refine RegI.f 47 true hc336 ?_
                 refine RegI.p 3 [(2, .bool t288)] ?_
                 refine RegI.d ?_
                 refine RunsI.t (.bool t288) ?_
                 refine cont_mk ?_
                 refine RegI.l [38, 40] [(38, .bool true), (40, .bool t288)] ?_
                 exact hj347 t288 t76 t77 t80 A78 c79 w294 h (h293.pick [5, 1, 2, 3, 6] (by decide))
                ·skip
                 refine RegI.f 47 false hc336 ?_
                 refine RegI.p 3 [(2, .bool false)] ?_
                 refine RegI.d ?_
                 refine RunsI.t (.bool false) ?_
                 refine cont_mk ?_
                 refine RegI.l [38, 40] [(38, .bool true), (40, .bool false)] ?_
                 exact hj347 false t76 t77 t80 A78 c79 w294 h (h293.pick [5, 1, 2, 3, 6] (by decide))
               ·skip
                refine RegI.f 44 false hc335 ?_
                refine RegI.p 6 [(2, .bool false)] ?_
                refine RegI.d ?_
                refine RunsI.t (.bool false) ?_
                refine cont_mk ?_
                refine RegI.l [38, 40] [(38, .bool true), (40, .bool false)] ?_
                exact hj347 false t76 t77 t80 A78 c79 w294 h (h293.pick [5, 1, 2, 3, 6] (by decide))
             clear hJ296
             rcases of_cond h with ⟨hc290, h⟩ | ⟨hc290, h⟩
             ·skip
              refine RegI.f 27 true hc290 ?_
              refine RegI.p 3 [(1, .pointer (some ⟨b92, 0, none⟩)), (5, .bool t268), (6, .int .i64 t278), (7, .bool t279), (8, .slice A285 t284.length c286), (9, .bool t288), (30, .bool t279)] ?_
              rcases of_cond h with ⟨hc291, h⟩ | ⟨hc291, h⟩
              ·skip
               refine RegI.f 30 true hc291 ?_
               refine RegI.p 2 [(1, .pointer (some ⟨b92, 0, none⟩)), (5, .bool t268), (6, .int .i64 t278), (7, .bool t279), (8, .slice A285 t284.length c286), (9, .bool t288), (32, .bool t288)] ?_
               refine RegI.l [1, 5, 6, 7, 8, 9, 32] [(1, .pointer (some ⟨b92, 0, none⟩)), (5, .bool t268), (6, .int .i64 t278), (7, .bool t279), (8, .slice A285 t284.length c286), (9, .bool t288), (32, .bool t288)] ?_
               exact hj297 t288 w280 h (h282.pick [5, 1, 2, 3, 6, 0, 4] (by decide))
              ·skip
               refine RegI.f 30 false hc291 ?_
               refine RegI.p 2 [(1, .pointer (some ⟨b92, 0, none⟩)), (5, .bool t268), (6, .int .i64 t278), (7, .bool t279), (8, .slice A285 t284.length c286), (9, .bool t288), (32, .bool false)] ?_
               refine RegI.l [1, 5, 6, 7, 8, 9, 32] [(1, .pointer (some ⟨b92, 0, none⟩)), (5, .bool t268), (6, .int .i64 t278), (7, .bool t279), (8, .slice A285 t284.length c286), (9, .bool t288), (32, .bool false)] ?_
               exact hj297 false w280 h (h282.pick [5, 1, 2, 3, 6, 0, 4] (by decide))
             ·skip
              refine RegI.f 27 false hc290 ?_
              refine RegI.p 5 [(1, .pointer (some ⟨b92, 0, none⟩)), (5, .bool t268), (6, .int .i64 t278), (7, .bool t279), (8, .slice A285 t284.length c286), (9, .bool t288), (32, .bool false)] ?_
              refine RegI.l [1, 5, 6, 7, 8, 9, 32] [(1, .pointer (some ⟨b92, 0, none⟩)), (5, .bool t268), (6, .int .i64 t278), (7, .bool t279), (8, .slice A285 t284.length c286), (9, .bool t288), (32, .bool false)] ?_
              exact hj297 false w280 h (h282.pick [5, 1, 2, 3, 6, 0, 4] (by decide))
            clear hJ272
            refine RunsI.g 1 [.c 1, .c 2] ?_
            refine RunsI.r ?_
            refine RegI.p 3 [(0, .string t125), (1, .string (⟨#[32]⟩ : ByteArray))] ?_
            refine RegI.d ?_
            refine RunsI.g 2 [.c 4, .c 5, .c 12] ?_
            refine RunsI.r ?_
            refine RegI.p 2 [(0, .string t125), (1, .string (⟨#[32]⟩ : ByteArray)), (8, .string t125), (9, .string (⟨#[32]⟩ : ByteArray))] ?_
            obtain ⟨t255, hg254, h⟩ := of_bind h
            refine RegI.o (OpE.call 10 (by kernel_rfl) 76 #[.string t125, .string (⟨#[32]⟩ : ByteArray)] (by kernel_rfl) ((stringslite_Index_76_ok K _ w157  t125 (⟨#[32]⟩ : ByteArray) h158.old' hg254).mono ?_))
            rintro _ w251 ⟨rfl, hb252⟩
            refine ⟨_, rfl, ?_⟩
            have h253 := h158.call hb252
            refine RegI.p 1 [(0, .string t125), (1, .string (⟨#[32]⟩ : ByteArray)), (7, .int .i64 t255)] ?_
            refine RegI.d ?_
            refine RunsI.g 1 [.c 6, .c 7, .c 12] ?_
            refine RunsI.r ?_
            refine RegI.p 2 [(0, .string t125), (1, .string (⟨#[32]⟩ : ByteArray)), (7, .int .i64 t255), (12, .bool (decide (t255 ≥ 0)))] ?_
            refine RegI.d ?_
            rcases of_cond h with ⟨hc256, h⟩ | ⟨hc256, h⟩
            ·skip
             refine RunsI.f 12 true hc256 ?_
             refine RunsI.b true 8 ?_
             refine RunsI.g 1 [.c 9, .c 10, .c 12] ?_
             refine RunsI.any 12 (by kernel_rfl) (by kernel_rfl) (by kernel_rfl) (Kp ([] : List Nat) (World.drew w251)) ?_
             have h258 := h253.drew
             generalize World.drew w251 = w257 at h258 ⊢
             have hS259 := Kp.refl ([] : List Nat) w257
             refine AnyE.pure 0 13 (.string t125) (by kernel_rfl) hS259 (fun _ => by kernel_rfl) ?_
             refine AnyE.pure 1 14 (.int .i64 t255) (by kernel_rfl) hS259 (fun _ => by kernel_rfl) ?_
             obtain ⟨hc261, h⟩ := of_cond0 h
             refine AnyE.run 2 15 (.string (strCut t125 0 t255)) (by kernel_rfl) hS259 (fun _ hk => run_strCut (T := 9) (s := t125) (lo := none) (hi := (some t255)) (by kernel_rfl) (by kernel_rfl) hc261) ?_
             refine AnyE.pure 3 16 (.string t125) (by kernel_rfl) hS259 (fun _ => by kernel_rfl) ?_
             refine AnyE.pure 4 17 (.int .i64 t255) (by kernel_rfl) hS259 (fun _ => by kernel_rfl) ?_
             refine AnyE.pure 5 18 (.string (⟨#[32]⟩ : ByteArray)) (by kernel_rfl) hS259 (fun _ => by kernel_rfl) ?_
             refine AnyE.pure 6 19 (.int .i64 ((⟨#[32]⟩ : ByteArray).size : Int)) (by kernel_rfl) hS259 (fun _ => by kernel_rfl) ?_
             refine AnyE.pure 7 20 (.int .i64 (IntKind.wrap .i64 (t255 + ((⟨#[32]⟩ : ByteArray).size : Int)))) (by kernel_rfl) hS259 (fun _ => by kernel_rfl) ?_
             obtain ⟨hc262, h⟩ := of_cond0 h
             refine AnyE.run 8 21 (.string (strCut t125 (IntKind.wrap .i64 (t255 + ((⟨#[32]⟩ : ByteArray).size : Int))) (t125.size : Int))) (by kernel_rfl) hS259 (fun _ hk => run_strCut (T := 9) (s := t125) (lo := (some (IntKind.wrap .i64 (t255 + ((⟨#[32]⟩ : ByteArray).size : Int))))) (hi := none) (by kernel_rfl) (by kernel_rfl) hc262) ?_
             refine AnyE.pure 9 4 (.string (strCut t125 0 t255)) (by kernel_rfl) hS259 (fun _ => by kernel_rfl) ?_
             refine AnyE.pure 10 5 (.string (strCut t125 (IntKind.wrap .i64 (t255 + ((⟨#[32]⟩ : ByteArray).size : Int))) (t125.size : Int))) (by kernel_rfl) hS259 (fun _ => by kernel_rfl) ?_
             refine AnyE.pure 11 6 (.bool true) (by kernel_rfl) hS259 (fun _ => by kernel_rfl) ?_
             refine AnyE.done (by kernel_rfl) (fun w263 hu264 => ?_)
             have h265 := h258.call hu264
             refine RunsI.l [4, 5, 6] [(4, .string (strCut t125 0 t255)), (5, .string (strCut t125 (IntKind.wrap .i64 (t255 + ((⟨#[32]⟩ : ByteArray).size : Int))) (t125.size : Int))), (6, .bool true)] ?_
             refine RunsI.t (.tuple #[.string (strCut t125 0 t255), .string (strCut t125 (IntKind.wrap .i64 (t255 + ((⟨#[32]⟩ : ByteArray).size : Int))) (t125.size : Int)), .bool true]) ?_
             refine cont_mk ?_
             refine RegI.l [9] [(9, .tuple #[.string (strCut t125 0 t255), .string (strCut t125 (IntKind.wrap .i64 (t255 + ((⟨#[32]⟩ : ByteArray).size : Int))) (t125.size : Int)), .bool true])] ?_
             exact hj273 (strCut t125 0 t255) (strCut t125 (IntKind.wrap .i64 (t255 + ((⟨#[32]⟩ : ByteArray).size : Int))) (t125.size : Int)) true w263 h (h265.pick [0, 1, 2, 3, 4, 5] (by decide))
            ·skip
             refine RunsI.f 12 false hc256 ?_
             refine RunsI.b false 11 ?_
             refine RunsI.g 1 [.c 12] ?_
             refine RunsI.g 1 [.c 13, .c 14] ?_
             refine RunsI.r ?_
             refine RegI.p 4 [(4, .string t125), (5, .string (⟨#[]⟩ : ByteArray)), (6, .bool false)] ?_
             refine RegI.d ?_
             refine RunsI.t (.tuple #[.string t125, .string (⟨#[]⟩ : ByteArray), .bool false]) ?_
             refine cont_mk ?_
             refine RegI.l [9] [(9, .tuple #[.string t125, .string (⟨#[]⟩ : ByteArray), .bool false])] ?_
             exact hj273 t125 (⟨#[]⟩ : ByteArray) false w251 h (h253.pick [0, 1, 2, 3, 4, 5] (by decide))
           ·skip
            refine RegI.f 35 false hc250 ?_
            refine RegI.p 7 [(4, .bool false)] ?_
            refine RegI.d ?_
            refine RunsI.t (.bool false) ?_
            refine cont_mk ?_
            refine RegI.l [2, 5, 7, 8, 16, 17, 18, 24] [(2, .pointer (some ⟨b71, 0, none⟩)), (5, .pointer (some ⟨b72, 0, none⟩)), (7, .int .i64 0), (8, .int .i64 t86), (16, .slice A82 t84.length c83), (17, .int .i64 t85), (18, .int .i64 t86), (24, .bool false)] ?_
            exact hj363 t75 t76 t77 t80 t81 false A73 c74 A78 c79 w157 h (h158.pick [0, 1, 2, 3, 4] (by decide))
          ·skip
           refine RegI.o (OpE.lookup (ek := ekS) (ev := (fun (v : Value) => v)) (zv := .nilFunc) 31 7 87 9 23 t124 (.tuple #[.nilFunc, .bool false]) true h158 (by kernel_rfl) rfl (by kernel_rfl) rfl (by kernel_rfl) (KeyOk.str Tryd.underlying9) (fun _ => by kernel_rfl) (by simp only [findK, hc160, hc180, hc200, hc211, hc249, cond_true, cond_false, Option.map_some, Option.map_none, Option.getD_some, Option.getD_none, Option.isSome_some, Option.isSome_none]) ?_)
           refine RegI.p 5 [(7, .bool t126), (8, .nilFunc), (9, .bool false)] ?_
           refine RegI.d ?_
           refine RunsI.g 1 [.c 15, .c 16] ?_
           refine RunsI.r ?_
           refine RegI.p 2 [(8, .nilFunc), (9, .bool false), (35, .bool t126)] ?_
           rcases of_cond h with ⟨hc348, h⟩ | ⟨hc348, h⟩
           ·skip
            refine RegI.f 35 true hc348 ?_
            refine RegI.p 7 [(4, .bool false)] ?_
            refine RegI.d ?_
            refine RunsI.t (.bool false) ?_
            refine cont_mk ?_
            refine RegI.l [2, 5, 7, 8, 16, 17, 18, 24] [(2, .pointer (some ⟨b71, 0, none⟩)), (5, .pointer (some ⟨b72, 0, none⟩)), (7, .int .i64 0), (8, .int .i64 t86), (16, .slice A82 t84.length c83), (17, .int .i64 t85), (18, .int .i64 t86), (24, .bool false)] ?_
            exact hj363 t75 t76 t77 t80 t81 false A73 c74 A78 c79 w157 h (h158.pick [0, 1, 2, 3, 4] (by decide))
           ·skip
            refine RegI.f 35 false hc348 ?_
            refine RegI.p 7 [(4, .bool false)] ?_
            refine RegI.d ?_
            refine RunsI.t (.bool false) ?_
            refine cont_mk ?_
            refine RegI.l [2, 5, 7, 8, 16, 17, 18, 24] [(2, .pointer (some ⟨b71, 0, none⟩)), (5, .pointer (some ⟨b72, 0, none⟩)), (7, .int .i64 0), (8, .int .i64 t86), (16, .slice A82 t84.length c83), (17, .int .i64 t85), (18, .int .i64 t86), (24, .bool false)] ?_
            exact hj363 t75 t76 t77 t80 t81 false A73 c74 A78 c79 w157 h (h158.pick [0, 1, 2, 3, 4] (by decide))
     clear hJ130
     refine RunsI.g 1 [.c 1, .c 2] ?_
     refine RunsI.r ?_
     refine RegI.p 3 [(0, .string (rdD t84 t86)), (1, .string (⟨#[32]⟩ : ByteArray))] ?_
     refine RegI.d ?_
     refine RunsI.g 2 [.c 4, .c 5, .c 12] ?_
     refine RunsI.r ?_
     refine RegI.p 2 [(0, .string (rdD t84 t86)), (1, .string (⟨#[32]⟩ : ByteArray)), (8, .string (rdD t84 t86)), (9, .string (⟨#[32]⟩ : ByteArray))] ?_
     obtain ⟨t113, hg112, h⟩ := of_bind h
     refine RegI.o (OpE.call 10 (by kernel_rfl) 76 #[.string (rdD t84 t86), .string (⟨#[32]⟩ : ByteArray)] (by kernel_rfl) ((stringslite_Index_76_ok K _ w104  (rdD t84 t86) (⟨#[32]⟩ : ByteArray) h103.old' hg112).mono ?_))
     rintro _ w109 ⟨rfl, hb110⟩
     refine ⟨_, rfl, ?_⟩
     have h111 := h103.call hb110
     refine RegI.p 1 [(0, .string (rdD t84 t86)), (1, .string (⟨#[32]⟩ : ByteArray)), (7, .int .i64 t113)] ?_
     refine RegI.d ?_
     refine RunsI.g 1 [.c 6, .c 7, .c 12] ?_
     refine RunsI.r ?_
     refine RegI.p 2 [(0, .string (rdD t84 t86)), (1, .string (⟨#[32]⟩ : ByteArray)), (7, .int .i64 t113), (12, .bool (decide (t113 ≥ 0)))] ?_
     refine RegI.d ?_
     rcases of_cond h with ⟨hc114, h⟩ | ⟨hc114, h⟩
     ·skip
      refine RunsI.f 12 true hc114 ?_
      refine RunsI.b true 8 ?_
      refine RunsI.g 1 [.c 9, .c 10, .c 12] ?_
      refine RunsI.any 12 (by kernel_rfl) (by kernel_rfl) (by kernel_rfl) (Kp ([] : List Nat) (World.drew w109)) ?_
      have h116 := h111.drew
      generalize World.drew w109 = w115 at h116 ⊢
      have hS117 := Kp.refl ([] : List Nat) w115
      refine AnyE.pure 0 13 (.string (rdD t84 t86)) (by kernel_rfl) hS117 (fun _ => by kernel_rfl) ?_
      refine AnyE.pure 1 14 (.int .i64 t113) (by kernel_rfl) hS117 (fun _ => by kernel_rfl) ?_
      obtain ⟨hc119, h⟩ := of_cond0 h
      refine AnyE.run 2 15 (.string (strCut (rdD t84 t86) 0 t113)) (by kernel_rfl) hS117 (fun _ hk => run_strCut (T := 9) (s := (rdD t84 t86)) (lo := none) (hi := (some t113)) (by kernel_rfl) (by kernel_rfl) hc119) ?_
      refine AnyE.pure 3 16 (.string (rdD t84 t86)) (by kernel_rfl) hS117 (fun _ => by kernel_rfl) ?_
      refine AnyE.pure 4 17 (.int .i64 t113) (by kernel_rfl) hS117 (fun _ => by kernel_rfl) ?_
      refine AnyE.pure 5 18 (.string (⟨#[32]⟩ : ByteArray)) (by kernel_rfl) hS117 (fun _ => by kernel_rfl) ?_
      refine AnyE.pure 6 19 (.int .i64 ((⟨#[32]⟩ : ByteArray).size : Int)) (by kernel_rfl) hS117 (fun _ => by kernel_rfl) ?_
      refine AnyE.pure 7 20 (.int .i64 (IntKind.wrap .i64 (t113 + ((⟨#[32]⟩ : ByteArray).size : Int)))) (by kernel_rfl) hS117 (fun _ => by kernel_rfl) ?_
      obtain ⟨hc120, h⟩ := of_cond0 h
      refine AnyE.run 8 21 (.string (strCut (rdD t84 t86) (IntKind.wrap .i64 (t113 + ((⟨#[32]⟩ : ByteArray).size : Int))) ((rdD t84 t86).size : Int))) (by kernel_rfl) hS117 (fun _ hk => run_strCut (T := 9) (s := (rdD t84 t86)) (lo := (some (IntKind.wrap .i64 (t113 + ((⟨#[32]⟩ : ByteArray).size : Int))))) (hi := none) (by kernel_rfl) (by kernel_rfl) hc120) ?_
      refine AnyE.pure 9 4 (.string (strCut (rdD t84 t86) 0 t113)) (by kernel_rfl) hS117 (fun _ => by kernel_rfl) ?_
      refine AnyE.pure 10 5 (.string (strCut (rdD t84 t86) (IntKind.wrap .i64 (t113 + ((⟨#[32]⟩ : ByteArray).size : Int))) ((rdD t84 t86).size : Int))) (by kernel_rfl) hS117 (fun _ => by kernel_rfl) ?_
      refine AnyE.pure 11 6 (.bool true) (by kernel_rfl) hS117 (fun _ => by kernel_rfl) ?_
      refine AnyE.done (by kernel_rfl) (fun w121 hu122 => ?_)
      have h123 := h116.call hu122
      refine RunsI.l [4, 5, 6] [(4, .string (strCut (rdD t84 t86) 0 t113)), (5, .string (strCut (rdD t84 t86) (IntKind.wrap .i64 (t113 + ((⟨#[32]⟩ : ByteArray).size : Int))) ((rdD t84 t86).size : Int))), (6, .bool true)] ?_
      refine RunsI.t (.tuple #[.string (strCut (rdD t84 t86) 0 t113), .string (strCut (rdD t84 t86) (IntKind.wrap .i64 (t113 + ((⟨#[32]⟩ : ByteArray).size : Int))) ((rdD t84 t86).size : Int)), .bool true]) ?_
      refine cont_mk ?_
      refine RegI.l [9] [(9, .tuple #[.string (strCut (rdD t84 t86) 0 t113), .string (strCut (rdD t84 t86) (IntKind.wrap .i64 (t113 + ((⟨#[32]⟩ : ByteArray).size : Int))) ((rdD t84 t86).size : Int)), .bool true])] ?_
      exact hj131 (strCut (rdD t84 t86) 0 t113) (strCut (rdD t84 t86) (IntKind.wrap .i64 (t113 + ((⟨#[32]⟩ : ByteArray).size : Int))) ((rdD t84 t86).size : Int)) true w121 h (h123.pick [4, 1, 2, 3, 5, 0] (by decide))
     ·skip
      refine RunsI.f 12 false hc114 ?_
      refine RunsI.b false 11 ?_
      refine RunsI.g 1 [.c 12] ?_
      refine RunsI.g 1 [.c 13, .c 14] ?_
      refine RunsI.r ?_
      refine RegI.p 4 [(4, .string (rdD t84 t86)), (5, .string (⟨#[]⟩ : ByteArray)), (6, .bool false)] ?_
      refine RegI.d ?_
      refine RunsI.t (.tuple #[.string (rdD t84 t86), .string (⟨#[]⟩ : ByteArray), .bool false]) ?_
      refine cont_mk ?_
      refine RegI.l [9] [(9, .tuple #[.string (rdD t84 t86), .string (⟨#[]⟩ : ByteArray), .bool false])] ?_
      exact hj131 (rdD t84 t86) (⟨#[]⟩ : ByteArray) false w109 h (h111.pick [4, 1, 2, 3, 5, 0] (by decide))
   clear hJ106
   rcases of_cond h with ⟨hc96, h⟩ | ⟨hc96, h⟩
   ·skip
    refine RegI.f 12 true hc96 ?_
    refine RegI.p 3 [(1, .string (rdD t84 t86)), (2, .pointer (some ⟨b92, 0, none⟩)), (15, .bool true)] ?_
    refine RegI.l [1, 2, 15] [(1, .string (rdD t84 t86)), (2, .pointer (some ⟨b92, 0, none⟩)), (15, .bool true)] ?_
    exact hj107 true w91 h (h93.pick [5, 1, 2, 3, 0, 4] (by decide))
   ·skip
    refine RegI.f 12 false hc96 ?_
    refine RegI.p 1 [(1, .string (rdD t84 t86)), (2, .pointer (some ⟨b92, 0, none⟩)), (12, .bool false), (13, .string (rdD t84 t86))] ?_
    obtain ⟨t101, hg100, h⟩ := of_bind h
    refine RegI.o (OpE.call 14 (by kernel_rfl) 36 #[.string (rdD t84 t86), .string (⟨#[59]⟩ : ByteArray)] (by kernel_rfl) ((strings_HasPrefix_36_ok K _ w91  (rdD t84 t86) (⟨#[59]⟩ : ByteArray) h93.old' hg100).mono ?_))
    rintro _ w97 ⟨rfl, hb98⟩
    refine ⟨_, rfl, ?_⟩
    have h99 := h93.call hb98
    refine RegI.p 1 [(1, .string (rdD t84 t86)), (2, .pointer (some ⟨b92, 0, none⟩)), (15, .bool t101)] ?_
    refine RegI.l [1, 2, 15] [(1, .string (rdD t84 t86)), (2, .pointer (some ⟨b92, 0, none⟩)), (15, .bool t101)] ?_
    exact hj107 t101 w97 h (h99.pick [5, 1, 2, 3, 0, 4] (by decide))
  ·skip
   refine RunsI.f 19 false hc87 ?_
   refine RunsI.b false 23 ?_
   refine RunsI.g 1 [.c 36, .sc 3] ?_
   refine RunsI.l [2, 5, 7] [(2, .pointer (some ⟨b71, 0, none⟩)), (5, .pointer (some ⟨b72, 0, none⟩)), (7, .int .i64 0)] ?_
   exact hk0 t75 t76 t77 t80 t81 A73 c74 A78 c79 w (Option.some.inj h).symm (hH.pick [0, 1, 2, 3] (by decide))
def image_Read_7.f (K : Nat) (p0 : ByteArray) : Option ((List Int) × Int × Int × (List (Int × Int)) × Int × Int × Int) := cond (decide ((p0.size : Int) > 65536)) (some (([] : List Int), 0, 0, ([] : List (Int × Int)), 0, 2, 0)) ((strings_Count_60.f K p0 (⟨#[10]⟩ : ByteArray)).bind fun t22 => cond (makeR (if (IntKind.wrap .i64 ((p0.size : Int) + 1)) < (IntKind.wrap .i64 (t22 + 1)) then (IntKind.wrap .i64 ((p0.size : Int) + 1)) else (IntKind.wrap .i64 (t22 + 1))) 16) ((image_Read_7.l0 K p0 (IntKind.wrap .i64 ((if (IntKind.wrap .i64 ((p0.size : Int) + 1)) < (IntKind.wrap .i64 (t22 + 1)) then (IntKind.wrap .i64 ((p0.size : Int) + 1)) else (IntKind.wrap .i64 (t22 + 1))) - 1)) K p0 (List.replicate (Int.toNat (if (IntKind.wrap .i64 ((p0.size : Int) + 1)) < (IntKind.wrap .i64 (t22 + 1)) then (IntKind.wrap .i64 ((p0.size : Int) + 1)) else (IntKind.wrap .i64 (t22 + 1)))) ByteArray.empty) 0).bind (fun yx54 => cond (inR yx54.2.2 yx54.2.1.length) (cond (cutR 0 (IntKind.wrap .i64 (yx54.2.2 + 1)) (stD yx54.2.1 yx54.2.2 yx54.1).length) ((image_Read_7.l1 K p0 (cutL (stD yx54.2.1 yx54.2.2 yx54.1) 0 (IntKind.wrap .i64 (yx54.2.2 + 1))) ((cutL (stD yx54.2.1 yx54.2.2 yx54.1) 0 (IntKind.wrap .i64 (yx54.2.2 + 1))).length : Int) K ([] : List Int) 1 0 ([] : List (Int × Int)) 0 0).bind (fun x375 => Lp.elim x375 (fun t388 => some (([] : List Int), 0, 0, ([] : List (Int × Int)), 0, 300, t388)) (fun yx375 => (image_Check_18.f K yx375.1 yx375.2.1 yx375.2.2.1 yx375.2.2.2.1 yx375.2.2.2.2).bind fun t395 => cond (t395 == 0) (some (yx375.1, yx375.2.1, yx375.2.2.1, yx375.2.2.2.1, yx375.2.2.2.2, t395, 0)) (some (([] : List Int), 0, 0, ([] : List (Int × Int)), 0, t395, 0))))) none) none)) none)
set_option maxRecDepth 100000 in
theorem image_Read_7_ok (K : Nat) (M0 : Nat → Prop) (w0 : World) (p0 : ByteArray) (ho : ∀ b, M0 b → b < w0.heap.size) {r : (List Int) × Int × Int × (List (Int × Int)) × Int × Int × Int} (h : image_Read_7.f K p0 = some r) :
  Calls Tryd.prog 7 #[.string p0] w0 (image_Read_7.post M0 w0 r) := by
 unfold image_Read_7.f at h
 have h0 : Holds M0 w0 w0 [] := Holds.start ho
 have h0 : Holds M0 w0 w0 [] := h0
 refine calls_of F7 rfl [.string p0] (by kernel_rfl) ?_
 refine RunsI.g 1 [.c 1, .c 2] ?_
 refine RunsI.r ?_
 refine RegI.o (OpE.box 2 29 [.slice none 0 0, .int .i64 0, .int .i64 0, .slice none 0 0, .int .u16 0] h0 (by kernel_rfl) (by kernel_rfl) ?_)
 intro w1 b2 h3 hb4 hn5
 refine RegI.p 2 [(0, .string p0), (2, .pointer (some ⟨b2, 0, none⟩))] ?_
 refine RegI.d ?_
 refine RunsI.g 2 [.c 4, .c 5, .sc 3] ?_
 refine RunsI.r ?_
 refine RegI.p 2 [(0, .string p0), (2, .pointer (some ⟨b2, 0, none⟩)), (11, .agg #[.slice none 0 0, .int .i64 1, .int .i64 0, .slice none 0 0, .int .u16 0])] ?_
 refine RegI.o (OpE.box 5 29 [.slice none 0 0, .int .i64 0, .int .i64 0, .slice none 0 0, .int .u16 0] h3 (by kernel_rfl) (by kernel_rfl) ?_)
 intro w6 b7 h8 hb9 hn10
 refine RegI.o (OpE.storeBox 1 29 b7 0 (.agg #[.slice none 0 0, .int .i64 1, .int .i64 0, .slice none 0 0, .int .u16 0]) [.slice none 0 0, .int .i64 1, .int .i64 0, .slice none 0 0, .int .u16 0] h8 (by kernel_rfl) (by kernel_rfl) rfl (by kernel_rfl) (by kernel_rfl) (by kernel_rfl) ?_)
 intro w11 h12 hk13
 refine RegI.d ?_
 refine RunsI.g 1 [.c 6, .c 7, .sc 3] ?_
 refine RunsI.r ?_
 refine RegI.p 2 [(0, .string p0), (2, .pointer (some ⟨b2, 0, none⟩)), (5, .pointer (some ⟨b7, 0, none⟩)), (6, .int .i64 2), (7, .int .i64 0)] ?_
 refine RegI.d ?_
 refine RunsI.g 2 [.c 9, .c 10, .c 13, .sc 3] ?_
 refine RunsI.r ?_
 refine RegI.p 3 [(0, .string p0), (2, .pointer (some ⟨b2, 0, none⟩)), (5, .pointer (some ⟨b7, 0, none⟩)), (6, .int .i64 2), (7, .int .i64 0), (14, .bool (decide ((p0.size : Int) > 65536)))] ?_
 refine RegI.d ?_
 rcases of_cond h with ⟨hc14, h⟩ | ⟨hc14, h⟩
 ·skip
  refine RunsI.f 14 true hc14 ?_
  refine RunsI.b true 11 ?_
  refine RunsI.goto [.c 48, .sc 3] (by kernel_rfl) ?_
  refine RunsI.g 1 [.c 49, .c 50, .sc 3] ?_
  refine RunsI.r ?_
  refine RegI.p 3 [(2, .pointer (some ⟨b2, 0, none⟩)), (35, .agg #[.slice none 0 0, .int .i64 0, .int .i64 0, .slice none 0 0, .int .u16 0]), (36, .int .i64 2), (37, .int .i64 0)] ?_
  refine RegI.o (OpE.storeBox 0 29 b2 0 (.agg #[.slice none 0 0, .int .i64 0, .int .i64 0, .slice none 0 0, .int .u16 0]) [.slice none 0 0, .int .i64 0, .int .i64 0, .slice none 0 0, .int .u16 0] h12 (by kernel_rfl) (by kernel_rfl) rfl (by kernel_rfl) (by kernel_rfl) (by kernel_rfl) ?_)
  intro w15 h16 hk17
  refine RegI.p 2 [(2, .pointer (some ⟨b2, 0, none⟩)), (3, .int .i64 2), (4, .int .i64 0)] ?_
  refine RegI.d ?_
  refine RunsI.toRet (by kernel_rfl) ?_
  refine RetI.valW [.cell 2 29, .tmp 3, .tmp 4] [.agg #[.slice none 0 0, .int .i64 0, .int .i64 0, .slice none 0 0, .int .u16 0], .int .i64 2, .int .i64 0] (.tuple #[.agg #[.slice none 0 0, .int .i64 0, .int .i64 0, .slice none 0 0, .int .u16 0], .int .i64 2, .int .i64 0]) (by kernel_rfl) (ResAt.box 0 29 b2 0 h16 (by kernel_rfl) (by kernel_rfl) rfl (by kernel_rfl) (ResAt.tmp (by kernel_rfl) (by kernel_rfl) (ResAt.tmp (by kernel_rfl) (by kernel_rfl) rfl))) (by kernel_rfl) ?_
  have h406 := h16.addOwnNil (Rp.int .u8) 5
  have h407 := h406.addSl (Rp.pair (Rp.int .i64) (Rp.int .u8)) (.slice none 0 0) [] (Sl.nil _ _ _)
  obtain rfl := Option.some.inj h
  exact ⟨none, 0, none, 0, rfl, h407.pick [2, 3] (by decide)⟩
 ·skip
  refine RunsI.f 14 false hc14 ?_
  refine RunsI.b false 12 ?_
  refine RunsI.g 1 [.c 13, .sc 3] ?_
  refine RunsI.g 2 [.c 15, .c 16, .c 36, .sc 3] ?_
  refine RunsI.r ?_
  refine RegI.p 1 [(2, .pointer (some ⟨b2, 0, none⟩)), (5, .pointer (some ⟨b7, 0, none⟩)), (7, .int .i64 0), (15, .string p0)] ?_
  refine RegI.enter 16 [2, 5, 7] [(2, .pointer (some ⟨b2, 0, none⟩)), (5, .pointer (some ⟨b7, 0, none⟩)), (7, .int .i64 0)] (by kernel_rfl) (by kernel_rfl) (by kernel_rfl) (by kernel_rfl) F20 20 rfl [.string p0, .string (⟨#[10]⟩ : ByteArray)] (by kernel_rfl) (by kernel_rfl) ?_
  refine RunsI.g 1 [.c 1, .c 2] ?_
  refine RunsI.r ?_
  refine RegI.p 1 [(0, .string p0), (1, .string (⟨#[10]⟩ : ByteArray))] ?_
  refine RegI.d ?_
  refine RunsI.g 1 [.c 3, .c 4] ?_
  refine RunsI.r ?_
  refine RegI.p 2 [(5, .string p0), (6, .string (⟨#[10]⟩ : ByteArray))] ?_
  refine RegI.enter 7 [] [] (by kernel_rfl) (by kernel_rfl) (by kernel_rfl) (by kernel_rfl) F35 35 rfl [.string p0, .string (⟨#[10]⟩ : ByteArray), .int .i64 0, .int .i64 (-1)] (by kernel_rfl) (by kernel_rfl) ?_
  refine RunsI.g 1 [.c 1, .c 2] ?_
  refine RunsI.r ?_
  refine RegI.p 1 [(0, .string p0), (1, .string (⟨#[10]⟩ : ByteArray)), (2, .int .i64 0), (3, .int .i64 (-1))] ?_
  refine RegI.d ?_
  refine RunsI.g 2 [.c 4, .c 5, .c 10] ?_
  refine RunsI.r ?_
  refine RegI.p 2 [(0, .string p0), (1, .string (⟨#[10]⟩ : ByteArray)), (2, .int .i64 0), (3, .int .i64 (-1)), (13, .bool false)] ?_
  refine RegI.d ?_
  refine RunsI.b false 9 ?_
  refine RunsI.g 3 [.c 12, .c 13, .c 18] ?_
  refine RunsI.r ?_
  refine RegI.p 2 [(0, .string p0), (1, .string (⟨#[10]⟩ : ByteArray)), (2, .int .i64 0), (3, .int .i64 (-1)), (15, .bool false)] ?_
  refine RegI.d ?_
  refine RunsI.b false 17 ?_
  refine RunsI.g 3 [.c 20, .c 21, .c 24] ?_
  refine RunsI.r ?_
  refine RegI.p 2 [(0, .string p0), (1, .string (⟨#[10]⟩ : ByteArray)), (2, .int .i64 0), (3, .int .i64 (-1)), (20, .bool true)] ?_
  refine RegI.d ?_
  refine RunsI.b true 22 ?_
  refine RunsI.r ?_
  refine RegI.p 2 [(0, .string p0), (1, .string (⟨#[10]⟩ : ByteArray)), (2, .int .i64 0), (21, .string p0), (22, .string (⟨#[10]⟩ : ByteArray))] ?_
  obtain ⟨t22, hg21, h⟩ := of_bind h
  refine RegI.o (OpE.call 23 (by kernel_rfl) 60 #[.string p0, .string (⟨#[10]⟩ : ByteArray)] (by kernel_rfl) ((strings_Count_60_ok K _ w11  p0 (⟨#[10]⟩ : ByteArray) h12.old' hg21).mono ?_))
  rintro _ w18 ⟨rfl, hb19⟩
  refine ⟨_, rfl, ?_⟩
  have h20 := h12.call hb19
  refine RegI.p 2 [(0, .string p0), (1, .string (⟨#[10]⟩ : ByteArray)), (2, .int .i64 0), (3, .int .i64 (IntKind.wrap .i64 (t22 + 1)))] ?_
  refine RegI.d ?_
  refine RunsI.g 1 [.c 25, .c 26] ?_
  refine RunsI.r ?_
  refine RegI.p 6 [(0, .string p0), (1, .string (⟨#[10]⟩ : ByteArray)), (2, .int .i64 0), (3, .int .i64 (if (IntKind.wrap .i64 ((p0.size : Int) + 1)) < (IntKind.wrap .i64 (t22 + 1)) then (IntKind.wrap .i64 ((p0.size : Int) + 1)) else (IntKind.wrap .i64 (t22 + 1))))] ?_
  refine RegI.d ?_
  refine RunsI.g 1 [.c 27, .c 28] ?_
  refine RunsI.r ?_
  refine RegI.p 1 [(0, .string p0), (1, .string (⟨#[10]⟩ : ByteArray)), (2, .int .i64 0), (3, .int .i64 (if (IntKind.wrap .i64 ((p0.size : Int) + 1)) < (IntKind.wrap .i64 (t22 + 1)) then (IntKind.wrap .i64 ((p0.size : Int) + 1)) else (IntKind.wrap .i64 (t22 + 1)))), (30, .int .i64 (if (IntKind.wrap .i64 ((p0.size : Int) + 1)) < (IntKind.wrap .i64 (t22 + 1)) then (IntKind.wrap .i64 ((p0.size : Int) + 1)) else (IntKind.wrap .i64 (t22 + 1))))] ?_
  obtain ⟨hc23, h⟩ := of_cond0 h
  refine RegI.o (OpE.makeAll 31 52 9 16 [.string ByteArray.empty] (k := .i64) (k' := .i64) (x := (if (IntKind.wrap .i64 ((p0.size : Int) + 1)) < (IntKind.wrap .i64 (t22 + 1)) then (IntKind.wrap .i64 ((p0.size : Int) + 1)) else (IntKind.wrap .i64 (t22 + 1)))) Rp.str ByteArray.empty h20 (by kernel_rfl) (by kernel_rfl) (by kernel_rfl) (by kernel_rfl) hc23 (fun _ _ => rfl) ?_)
  intro w24 A25 c26 h27 hb28
  refine RegI.p 1 [(0, .string p0), (1, .string (⟨#[10]⟩ : ByteArray)), (2, .int .i64 0), (3, .int .i64 (if (IntKind.wrap .i64 ((p0.size : Int) + 1)) < (IntKind.wrap .i64 (t22 + 1)) then (IntKind.wrap .i64 ((p0.size : Int) + 1)) else (IntKind.wrap .i64 (t22 + 1)))), (9, .slice A25 ((List.replicate (Int.toNat (if (IntKind.wrap .i64 ((p0.size : Int) + 1)) < (IntKind.wrap .i64 (t22 + 1)) then (IntKind.wrap .i64 ((p0.size : Int) + 1)) else (IntKind.wrap .i64 (t22 + 1)))) ByteArray.empty).length) c26)] ?_
  refine RegI.d ?_
  refine RunsI.g 1 [.c 29, .c 30] ?_
  refine RunsI.r ?_
  refine RegI.p 3 [(0, .string p0), (1, .string (⟨#[10]⟩ : ByteArray)), (2, .int .i64 0), (3, .int .i64 (IntKind.wrap .i64 ((if (IntKind.wrap .i64 ((p0.size : Int) + 1)) < (IntKind.wrap .i64 (t22 + 1)) then (IntKind.wrap .i64 ((p0.size : Int) + 1)) else (IntKind.wrap .i64 (t22 + 1))) - 1))), (9, .slice A25 ((List.replicate (Int.toNat (if (IntKind.wrap .i64 ((p0.size : Int) + 1)) < (IntKind.wrap .i64 (t22 + 1)) then (IntKind.wrap .i64 ((p0.size : Int) + 1)) else (IntKind.wrap .i64 (t22 + 1)))) ByteArray.empty).length) c26)] ?_
  refine RegI.d ?_
  refine RunsI.g 1 [.c 31, .c 32] ?_
  refine RunsI.r ?_
  refine RegI.p 1 [(0, .string p0), (1, .string (⟨#[10]⟩ : ByteArray)), (2, .int .i64 0), (3, .int .i64 (IntKind.wrap .i64 ((if (IntKind.wrap .i64 ((p0.size : Int) + 1)) < (IntKind.wrap .i64 (t22 + 1)) then (IntKind.wrap .i64 ((p0.size : Int) + 1)) else (IntKind.wrap .i64 (t22 + 1))) - 1))), (9, .slice A25 ((List.replicate (Int.toNat (if (IntKind.wrap .i64 ((p0.size : Int) + 1)) < (IntKind.wrap .i64 (t22 + 1)) then (IntKind.wrap .i64 ((p0.size : Int) + 1)) else (IntKind.wrap .i64 (t22 + 1)))) ByteArray.empty).length) c26), (10, .int .i64 0)] ?_
  refine RegI.d ?_
  refine RunsI.g 3 [.c 35, .lp 35, .blk 0, .c 55] ?_
  obtain ⟨x54, hx55, h⟩ := of_bind h
  refine RunsI.l [0, 1, 2, 3, 9, 10] [(0, .string p0), (1, .string (⟨#[10]⟩ : ByteArray)), (2, .int .i64 0), (3, .int .i64 (IntKind.wrap .i64 ((if (IntKind.wrap .i64 ((p0.size : Int) + 1)) < (IntKind.wrap .i64 (t22 + 1)) then (IntKind.wrap .i64 ((p0.size : Int) + 1)) else (IntKind.wrap .i64 (t22 + 1))) - 1))), (9, .slice A25 ((List.replicate (Int.toNat (if (IntKind.wrap .i64 ((p0.size : Int) + 1)) < (IntKind.wrap .i64 (t22 + 1)) then (IntKind.wrap .i64 ((p0.size : Int) + 1)) else (IntKind.wrap .i64 (t22 + 1)))) ByteArray.empty).length) c26), (10, .int .i64 0)] ?_
  refine image_Read_7.l0_ok K M0 w0 p0 (IntKind.wrap .i64 ((if (IntKind.wrap .i64 ((p0.size : Int) + 1)) < (IntKind.wrap .i64 (t22 + 1)) then (IntKind.wrap .i64 ((p0.size : Int) + 1)) else (IntKind.wrap .i64 (t22 + 1))) - 1)) A25 c26 b2 b7 _ x54 ?_ K p0 (List.replicate (Int.toNat (if (IntKind.wrap .i64 ((p0.size : Int) + 1)) < (IntKind.wrap .i64 (t22 + 1)) then (IntKind.wrap .i64 ((p0.size : Int) + 1)) else (IntKind.wrap .i64 (t22 + 1)))) ByteArray.empty) 0 w24 hx55 (h27.pick [2, 0, 1] (by decide))
  ·intro t56 t57 t58 w60 hq408 h59
   (try rw [hq408] at h)
   dsimp only at h
   refine RunsI.g 1 [.c 56, .c 57] ?_
   refine RunsI.r ?_
   refine RegI.p 3 [(9, .slice A25 t57.length c26), (10, .int .i64 t58), (58, .slice A25 t57.length c26), (59, .int .i64 t58), (60, .string t56)] ?_
   obtain ⟨hc61, h⟩ := of_cond0 h
   refine RegI.o (OpE.idxOwnA 61 0 52 9 t58 h59 (by kernel_rfl) rfl (by kernel_rfl) (by kernel_rfl) hc61 ?_)
   refine RegI.o (OpE.storeOwnA 0 9 9 t58 0 (.string t56) (o := (Int.toNat t58) * 1 + 0) t56 h59 (by kernel_rfl) (by kernel_rfl) rfl (by kernel_rfl) (by kernel_rfl) (by kernel_rfl) hc61 (fun _ hk => by obtain rfl := hk; exact rfl) ?_)
   intro w62 h63 hk64
   refine RegI.d ?_
   refine RunsI.g 1 [.c 58, .c 59] ?_
   refine RunsI.r ?_
   refine RegI.p 3 [(62, .slice A25 t57.length c26), (64, .int .i64 (IntKind.wrap .i64 (t58 + 1)))] ?_
   obtain ⟨hc65, h⟩ := of_cond0 h
   refine RegI.o (OpE.cutOwn 65 0 52 9 (some (IntKind.wrap .i64 (t58 + 1))) h63 (by kernel_rfl) rfl (by kernel_rfl) (by kernel_rfl) hc65 ?_)
   intro A66 c67 h68
   refine RegI.p 1 [(8, .slice A66 ((cutL (stD t57 t58 t56) 0 (IntKind.wrap .i64 (t58 + 1))).length) c67)] ?_
   refine RegI.d ?_
   refine RunsI.t (.slice A66 ((cutL (stD t57 t58 t56) 0 (IntKind.wrap .i64 (t58 + 1))).length) c67) ?_
   refine cont_mk ?_
   refine RegI.p 1 [(4, .slice A66 ((cutL (stD t57 t58 t56) 0 (IntKind.wrap .i64 (t58 + 1))).length) c67)] ?_
   refine RegI.d ?_
   refine RunsI.t (.slice A66 ((cutL (stD t57 t58 t56) 0 (IntKind.wrap .i64 (t58 + 1))).length) c67) ?_
   refine cont_mk ?_
   refine RegI.p 2 [(2, .pointer (some ⟨b2, 0, none⟩)), (5, .pointer (some ⟨b7, 0, none⟩)), (7, .int .i64 0), (16, .slice A66 ((cutL (stD t57 t58 t56) 0 (IntKind.wrap .i64 (t58 + 1))).length) c67), (17, .int .i64 ((cutL (stD t57 t58 t56) 0 (IntKind.wrap .i64 (t58 + 1))).length : Int)), (18, .int .i64 0)] ?_
   refine RegI.d ?_
   refine RunsI.g 2 [.c 18, .lp 18, .blk 0, .c 36, .sc 3] ?_
   obtain ⟨x375, hx376, h⟩ := of_bind h
   have h69 := h68.addOwnNil (Rp.int .u8) 5
   have h70 := h69.addSl (Rp.pair (Rp.int .i64) (Rp.int .u8)) (.slice none 0 0) [] (Sl.nil _ _ _)
   refine RunsI.l [2, 5, 7, 16, 17, 18] [(2, .pointer (some ⟨b2, 0, none⟩)), (5, .pointer (some ⟨b7, 0, none⟩)), (7, .int .i64 0), (16, .slice A66 ((cutL (stD t57 t58 t56) 0 (IntKind.wrap .i64 (t58 + 1))).length) c67), (17, .int .i64 ((cutL (stD t57 t58 t56) 0 (IntKind.wrap .i64 (t58 + 1))).length : Int)), (18, .int .i64 0)] ?_
   refine image_Read_7.l1_ok K M0 w0 p0 (cutL (stD t57 t58 t56) 0 (IntKind.wrap .i64 (t58 + 1))) ((cutL (stD t57 t58 t56) 0 (IntKind.wrap .i64 (t58 + 1))).length : Int) b2 b7 A66 c67 _ x375 ?_ ?_ K ([] : List Int) 1 0 ([] : List (Int × Int)) 0 0 none 0 none 0 w62 hx376 (h70.pick [1, 2, 3, 4, 0] (by decide))
   ·intro t379 t380 t381 t384 t385 A377 c378 A382 c383 w387 hq409 h386
    (try rw [hq409] at h)
    dsimp only [Lp.elim] at h
    refine RunsI.g 2 [.c 38, .c 39, .c 46, .sc 3] ?_
    refine RunsI.r ?_
    refine RegI.o (OpE.loadBox 29 1 29 b7 0 (.agg #[.slice A377 t379.length c378, .int .i64 t380, .int .i64 t381, .slice A382 t384.length c383, .int .u16 t385]) h386 (by kernel_rfl) (by kernel_rfl) rfl (by kernel_rfl) ?_)
    obtain ⟨t395, hg394, h⟩ := of_bind h
    refine RegI.o (OpE.call 30 (by kernel_rfl) 18 #[.agg #[.slice A377 t379.length c378, .int .i64 t380, .int .i64 t381, .slice A382 t384.length c383, .int .u16 t385]] (by kernel_rfl) ((image_Check_18_ok K (fun _ => False) w387  A377 c378 A382 c383 t379 t380 t381 t384 t385 (fun _ hf => hf.elim) (h386.ownSl 2 rfl) (h386.slAny 3 rfl) hg394).mono ?_))
    rintro _ w391 ⟨rfl, hb392⟩
    refine ⟨_, rfl, ?_⟩
    have h393 := h386.call hb392
    refine RegI.p 1 [(2, .pointer (some ⟨b2, 0, none⟩)), (5, .pointer (some ⟨b7, 0, none⟩)), (6, .int .i64 t395), (7, .int .i64 0)] ?_
    refine RegI.d ?_
    refine RunsI.g 1 [.c 40, .c 41, .c 46, .sc 3] ?_
    refine RunsI.r ?_
    refine RegI.p 2 [(2, .pointer (some ⟨b2, 0, none⟩)), (5, .pointer (some ⟨b7, 0, none⟩)), (6, .int .i64 t395), (7, .int .i64 0), (32, .bool (t395 == 0))] ?_
    refine RegI.d ?_
    rcases of_cond h with ⟨hc396, h⟩ | ⟨hc396, h⟩
    ·skip
     refine RunsI.f 32 true hc396 ?_
     refine RunsI.b true 42 ?_
     refine RunsI.g 1 [.c 43, .c 44, .c 46, .sc 3] ?_
     refine RunsI.r ?_
     refine RegI.o (OpE.loadBox 33 1 29 b7 0 (.agg #[.slice A377 t379.length c378, .int .i64 t380, .int .i64 t381, .slice A382 t384.length c383, .int .u16 t385]) h393 (by kernel_rfl) (by kernel_rfl) rfl (by kernel_rfl) ?_)
     refine RegI.p 1 [(2, .pointer (some ⟨b2, 0, none⟩)), (33, .agg #[.slice A377 t379.length c378, .int .i64 t380, .int .i64 t381, .slice A382 t384.length c383, .int .u16 t385]), (34, .int .i64 t395)] ?_
     refine RegI.o (OpE.storeBox 0 29 b2 0 (.agg #[.slice A377 t379.length c378, .int .i64 t380, .int .i64 t381, .slice A382 t384.length c383, .int .u16 t385]) [.slice A377 t379.length c378, .int .i64 t380, .int .i64 t381, .slice A382 t384.length c383, .int .u16 t385] h393 (by kernel_rfl) (by kernel_rfl) rfl (by kernel_rfl) (by kernel_rfl) (by kernel_rfl) ?_)
     intro w397 h398 hk399
     refine RegI.p 2 [(2, .pointer (some ⟨b2, 0, none⟩)), (3, .int .i64 t395), (4, .int .i64 0)] ?_
     refine RegI.d ?_
     refine RunsI.toRet (by kernel_rfl) ?_
     refine RetI.valW [.cell 2 29, .tmp 3, .tmp 4] [.agg #[.slice A377 t379.length c378, .int .i64 t380, .int .i64 t381, .slice A382 t384.length c383, .int .u16 t385], .int .i64 t395, .int .i64 0] (.tuple #[.agg #[.slice A377 t379.length c378, .int .i64 t380, .int .i64 t381, .slice A382 t384.length c383, .int .u16 t385], .int .i64 t395, .int .i64 0]) (by kernel_rfl) (ResAt.box 0 29 b2 0 h398 (by kernel_rfl) (by kernel_rfl) rfl (by kernel_rfl) (ResAt.tmp (by kernel_rfl) (by kernel_rfl) (ResAt.tmp (by kernel_rfl) (by kernel_rfl) rfl))) (by kernel_rfl) ?_
     obtain rfl := Option.some.inj h
     exact ⟨A377, c378, A382, c383, rfl, h398.pick [2, 3] (by decide)⟩
    ·skip
     refine RunsI.f 32 false hc396 ?_
     refine RunsI.b false 45 ?_
     refine RunsI.g 1 [.c 46, .sc 3] ?_
     refine RunsI.g 3 [.c 49, .c 50, .sc 3] ?_
     refine RunsI.r ?_
     refine RegI.p 3 [(2, .pointer (some ⟨b2, 0, none⟩)), (35, .agg #[.slice none 0 0, .int .i64 0, .int .i64 0, .slice none 0 0, .int .u16 0]), (36, .int .i64 t395), (37, .int .i64 0)] ?_
     refine RegI.o (OpE.storeBox 0 29 b2 0 (.agg #[.slice none 0 0, .int .i64 0, .int .i64 0, .slice none 0 0, .int .u16 0]) [.slice none 0 0, .int .i64 0, .int .i64 0, .slice none 0 0, .int .u16 0] h393 (by kernel_rfl) (by kernel_rfl) rfl (by kernel_rfl) (by kernel_rfl) (by kernel_rfl) ?_)
     intro w400 h401 hk402
     refine RegI.p 2 [(2, .pointer (some ⟨b2, 0, none⟩)), (3, .int .i64 t395), (4, .int .i64 0)] ?_
     refine RegI.d ?_
     refine RunsI.toRet (by kernel_rfl) ?_
     refine RetI.valW [.cell 2 29, .tmp 3, .tmp 4] [.agg #[.slice none 0 0, .int .i64 0, .int .i64 0, .slice none 0 0, .int .u16 0], .int .i64 t395, .int .i64 0] (.tuple #[.agg #[.slice none 0 0, .int .i64 0, .int .i64 0, .slice none 0 0, .int .u16 0], .int .i64 t395, .int .i64 0]) (by kernel_rfl) (ResAt.box 0 29 b2 0 h401 (by kernel_rfl) (by kernel_rfl) rfl (by kernel_rfl) (ResAt.tmp (by kernel_rfl) (by kernel_rfl) (ResAt.tmp (by kernel_rfl) (by kernel_rfl) rfl))) (by kernel_rfl) ?_
     have h410 := h401.addOwnNil (Rp.int .u8) 5
     have h411 := h410.addSl (Rp.pair (Rp.int .i64) (Rp.int .u8)) (.slice none 0 0) [] (Sl.nil _ _ _)
     obtain rfl := Option.some.inj h
     exact ⟨none, 0, none, 0, rfl, h411.pick [4, 5] (by decide)⟩
   ·intro t388 w390 hq412 h389
    (try rw [hq412] at h)
    dsimp only [Lp.elim] at h
    refine RunsI.g 1 [.c 49, .c 50, .sc 3] ?_
    refine RunsI.r ?_
    refine RegI.p 3 [(2, .pointer (some ⟨b2, 0, none⟩)), (35, .agg #[.slice none 0 0, .int .i64 0, .int .i64 0, .slice none 0 0, .int .u16 0]), (36, .int .i64 300), (37, .int .i64 t388)] ?_
    refine RegI.o (OpE.storeBox 0 29 b2 0 (.agg #[.slice none 0 0, .int .i64 0, .int .i64 0, .slice none 0 0, .int .u16 0]) [.slice none 0 0, .int .i64 0, .int .i64 0, .slice none 0 0, .int .u16 0] h389 (by kernel_rfl) (by kernel_rfl) rfl (by kernel_rfl) (by kernel_rfl) (by kernel_rfl) ?_)
    intro w403 h404 hk405
    refine RegI.p 2 [(2, .pointer (some ⟨b2, 0, none⟩)), (3, .int .i64 300), (4, .int .i64 t388)] ?_
    refine RegI.d ?_
    refine RunsI.toRet (by kernel_rfl) ?_
    refine RetI.valW [.cell 2 29, .tmp 3, .tmp 4] [.agg #[.slice none 0 0, .int .i64 0, .int .i64 0, .slice none 0 0, .int .u16 0], .int .i64 300, .int .i64 t388] (.tuple #[.agg #[.slice none 0 0, .int .i64 0, .int .i64 0, .slice none 0 0, .int .u16 0], .int .i64 300, .int .i64 t388]) (by kernel_rfl) (ResAt.box 0 29 b2 0 h404 (by kernel_rfl) (by kernel_rfl) rfl (by kernel_rfl) (ResAt.tmp (by kernel_rfl) (by kernel_rfl) (ResAt.tmp (by kernel_rfl) (by kernel_rfl) rfl))) (by kernel_rfl) ?_
    have h413 := h404.addOwnNil (Rp.int .u8) 5
    have h414 := h413.addSl (Rp.pair (Rp.int .i64) (Rp.int .u8)) (.slice none 0 0) [] (Sl.nil _ _ _)
    obtain rfl := Option.some.inj h
    exact ⟨none, 0, none, 0, rfl, h414.pick [1, 2] (by decide)⟩
end

/-! ### (*strings.Builder).WriteString (function 27) -/
section
theorem strings_Builder_WriteString_27_info : (Tryd.prog.info? 68).map (·.size) = some 2 := by kernel_rfl
theorem strings_Builder_WriteString_27_byte : (Tryd.prog.info? 5).map (fun i => (i.zero, i.size, i.bytes)) = some (some (.int .u8 0), 1, 1) := by kernel_rfl
set_option maxRecDepth 100000 in
theorem strings_Builder_WriteString_27_copy : CopyOk Tryd.prog 51 68 := by
 refine ⟨fun b w h0 => ?_, fun b w h0 hsh hfz => ?_⟩
 ·obtain ⟨j, hj, _⟩ := Option.map_eq_some_iff.1 strings_Builder_WriteString_27_info
  go_enter Tryd.func51, Tryd.ntmps51
  go_wp2
  rw [Lib.run_neq_ptr_same w _ Tryd.underlying66 hj]
  go_wp2
  go_end0
  exact ⟨rfl, rfl⟩
 ·obtain ⟨j, hj, hjs⟩ := Option.map_eq_some_iff.1 strings_Builder_WriteString_27_info
  go_enter Tryd.func51, Tryd.ntmps51
  go_wp2
  rw [Lib.run_to_unsafe w ⟨b, 0, none⟩ Tryd.underlying66 Tryd.underlying107 hj (by rw [hjs]; decide) hsh (Nat.zero_lt_succ 1)]
  simp only [Result.andThen]
  rw [Oper.upon_value]
  go_wp2
  rw [run_callFunc_extern Tryd.func67 (by kernel_rfl) (by kernel_rfl) (by kernel_rfl) (e := Extern.AbiNoEscape.same) (by kernel_rfl)]
  rw [Lib.run_noEscape]
  simp only [Result.andThen]
  rw [Oper.upon_value]
  go_wp2
  rw [Lib.run_from_unsafe w ⟨b, 0, none⟩ Tryd.underlying107 Tryd.underlying66 hj hsh (by kernel_rfl)]
  simp only [Result.andThen]
  rw [Oper.upon_value]
  go_wp2
  go_end0
  exact ⟨rfl, rfl⟩
theorem strings_Builder_WriteString_27_ok {M0 : Nat → Prop} {w0 w : World} {H : List Chunk} (c : Nat) {b cp : Nat} {A : Option Addr} {l : List UInt8} (s : ByteArray) (hH : Holds M0 w0 w H) (hi : H[c]? = some (bl 68 5 b (.slice A l.length cp) A cp l)) (hR : bldR l.length s.size = true) :
  Calls Tryd.prog 27 #[.pointer (some ⟨b, 0, none⟩), .string s] w fun e w' => e = .returned (.tuple #[.int .i64 (s.size : Int), .nilIface]) ∧ ∃ A' cp', Holds M0 w0 w' (H.set c (bl 68 5 b (.slice A' (l ++ s.data.toList).length cp') A' cp' (l ++ s.data.toList))) := by
 have hcl : c < H.length := (List.getElem?_eq_some_iff.1 hi).1
 refine calls_of F27 rfl [.pointer (some ⟨b, 0, none⟩), .string s] (by kernel_rfl) ?_
 refine RunsI.g 1 [.c 1, .c 2] ?_
 refine RunsI.r ?_
 refine RegI.p 2 [(0, .pointer (some ⟨b, 0, none⟩)), (1, .string s)] ?_
 refine RegI.d ?_
 refine RunsI.g 1 [.c 3, .c 4] ?_
 refine RunsI.r ?_
 refine RegI.p 1 [(0, .pointer (some ⟨b, 0, none⟩)), (1, .string s), (6, .pointer (some ⟨b, 0, none⟩))] ?_
 refine RegI.o (OpE.call 7 (by kernel_rfl) 51 #[.pointer (some ⟨b, 0, none⟩)] (by kernel_rfl) ((hH.copyCheck strings_Builder_WriteString_27_copy hi).mono ?_))
 rintro _ w1 ⟨rfl, h1⟩
 refine ⟨_, rfl, ?_⟩
 refine RegI.l [0, 1] [(0, .pointer (some ⟨b, 0, none⟩)), (1, .string s)] ?_
 refine RegI.d ?_
 refine RunsI.g 1 [.c 5, .c 6] ?_
 refine RunsI.r ?_
 have hi1 : (H.set c (bl 68 5 b (.slice A l.length cp) A cp l))[c]? = some (bl 68 5 b (.slice A l.length cp) A cp l) := by rw [List.getElem?_set_self hcl]
 obtain ⟨⟨p, hp, hb⟩, ho, hne⟩ := h1.get c hi1
 refine RegI.p 4 [(1, .string s), (8, .pointer (some ⟨b, 0, none⟩)), (11, .pointer (some ⟨b, 1, none⟩))] ?_
 refine RegI.o (OpE.load 12 22 (b := b) (o := 1) (cs := [.slice A l.length cp]) (v := .slice A l.length cp) (by kernel_rfl) (by kernel_rfl) (box_cells (cs := [p, .slice A l.length cp]) hb 1) (by kernel_rfl) ?_)
 refine RegI.p 1 [(1, .string s), (8, .pointer (some ⟨b, 0, none⟩)), (12, .slice A l.length cp), (13, .string s)] ?_
 obtain ⟨inf, hi0, hpt⟩ := Option.map_eq_some_iff.1 strings_Builder_WriteString_27_byte
 simp only [Prod.mk.injEq] at hpt
 obtain ⟨hz, hsz, hby⟩ := hpt
 obtain ⟨A2, cp2, w2, hr, h2⟩ := h1.blApp (ty := (opOf F27.B 5 6).type) (t := 22) (u := 9) Tryd.underlying22 Tryd.underlying9 hi0 hz hsz hby hi1 (by decide) s hR
 rw [List.set_set] at h2
 have hi2 : (H.set c (bl 68 5 b (.slice A l.length cp) A2 cp2 (l ++ s.data.toList)))[c]? = some (bl 68 5 b (.slice A l.length cp) A2 cp2 (l ++ s.data.toList)) := by rw [List.getElem?_set_self hcl]
 refine RegI.o (OpE.run 14 (by kernel_rfl) (run_appendStr (T := 22) (U := 9) (v := .slice A l.length cp) (s := s) (by kernel_rfl) hr) ?_)
 refine RegI.p 2 [(1, .string s), (14, .slice A2 (l ++ s.data.toList).length cp2), (16, .pointer (some ⟨b, 1, none⟩))] ?_
 refine RegI.o (OpE.storeBl c 22 (A2 := A2) (n2 := (l ++ s.data.toList).length) (c2 := cp2) h2 (by kernel_rfl) (by kernel_rfl) hi2 (by kernel_rfl) ?_)
 intro w3 h3
 rw [List.set_set] at h3
 refine RegI.d ?_
 refine RunsI.g 1 [.c 7, .c 8] ?_
 refine RunsI.r ?_
 refine RegI.p 4 [(4, .int .i64 (s.size : Int)), (5, .nilIface)] ?_
 refine RegI.d ?_
 refine RunsI.t (.tuple #[.int .i64 (s.size : Int), .nilIface]) ?_
 exact ⟨rfl, A2, cp2, h3⟩
end


/-! ### strings.Repeat (function 53) -/
section
def strings_Repeat_53.post (M0 : Nat → Prop) (w0 : World) (r : ByteArray) : Ending → World → Prop := fun e w => e = .returned (.string r) ∧ Below w0.heap.size w0 w
def strings_Repeat_53.f (K : Nat) (p0 : ByteArray) (p1 : Int) : Option ByteArray := cond (repR p0.size p1) (some (⟨(Lib.repeatL p0.data.toList p1.toNat).toArray⟩ : ByteArray)) none
theorem strings_Repeat_53_ok (K : Nat) (M0 : Nat → Prop) (w0 : World) (p0 : ByteArray) (p1 : Int) (ho : ∀ b, M0 b → b < w0.heap.size) {r : ByteArray} (h : strings_Repeat_53.f K p0 p1 = some r) : Calls Tryd.prog 53 #[.string p0, .int .i64 p1] w0 (strings_Repeat_53.post M0 w0 r) := by
 obtain ⟨hc, h⟩ := of_cond0 h
 obtain rfl := Option.some.inj h
 obtain ⟨h1, h2, h3⟩ := repR_of hc
 have hq : ((p1.toNat : Nat) : Int) = p1 := Int.toNat_of_nonneg h1
 rw [← hq]
 refine (Tryd.strings_Repeat p0 p1.toNat w0 h2 h3).mono ?_
 rintro e w' ⟨rfl, hb⟩
 exact ⟨by rw [hq], hb⟩
end

/-! ### charabanc/image.hex (function 28) -/
section
def image_hex_28.post (M0 : Nat → Prop) (w0 : World) (r : ByteArray) : Ending → World → Prop := fun e w => e = .returned (.string r) ∧ Below w0.heap.size w0 w
def image_hex_28.l0 (K : Nat) (p0 : Int) (p1 : Int) : Nat → Int → (List Int) → Int → Option (Int × (List Int) × Int)
 | 0, _, _, _ => none
 | k + 1, t13, t15, t16 => cond (decide (t13 ≥ 16)) (cond (inR (band .u64 t13 15) (⟨#[48, 49, 50, 51, 52, 53, 54, 55, 56, 57, 97, 98, 99, 100, 101, 102, 103, 104, 105, 106, 107, 108, 109, 110, 111, 112, 113, 114, 115, 116, 117, 118, 119, 120, 121, 122]⟩ : ByteArray).size) (cond (inR (IntKind.wrap .i64 (t16 - 1)) 65) (cond (inR (IntKind.wrap .i64 (t16 - 1)) t15.length) (image_hex_28.l0 K p0 p1 k (Int.fdiv t13 (2 ^ 4)) (stD t15 (IntKind.wrap .i64 (t16 - 1)) (btD (⟨#[48, 49, 50, 51, 52, 53, 54, 55, 56, 57, 97, 98, 99, 100, 101, 102, 103, 104, 105, 106, 107, 108, 109, 110, 111, 112, 113, 114, 115, 116, 117, 118, 119, 120, 121, 122]⟩ : ByteArray) (band .u64 t13 15))) (IntKind.wrap .i64 (t16 - 1))) none) none) none) (some (t13, t15, t16))
set_option maxRecDepth 100000 in
theorem image_hex_28.l0_ok (K : Nat) (M0 : Nat → Prop) (w0 : World) (p0 : Int) (p1 : Int) (b14 : Nat) (R : Ending → World → Prop) (x : Int × (List Int) × Int) (hk0 : ∀ (t24 : Int) (t25 : List Int) (t26 : Int) (w1 : World), x = (t24, t25, t26) → Holds M0 w0 w1 [box b14 136 (List.flatMap (fun (x : Int) => ([.int .u8 x] : List Value)) t25), gl 1 (tab_1.flatMap en_1), gl 4 (tab_4.flatMap en_4), gl 5 (tab_5.flatMap en_5)] → RunsI F87 [.c 43, .c 68] [(0, .slice none 0 0), (1, .int .u64 t24), (3, .bool (decide (p0 < 0))), (4, .bool false), (10, .slice none 0 0), (11, .string (⟨#[]⟩ : ByteArray)), (12, .pointer (some ⟨b14, 0, none⟩)), (13, .int .i64 t26)] w1 R) :
  ∀ (k : Nat) (t13 : Int) (t15 : List Int) (t16 : Int) (w : World), image_hex_28.l0 K p0 p1 k t13 t15 t16 = some x → Holds M0 w0 w [box b14 136 (List.flatMap (fun (x : Int) => ([.int .u8 x] : List Value)) t15), gl 1 (tab_1.flatMap en_1), gl 4 (tab_4.flatMap en_4), gl 5 (tab_5.flatMap en_5)] → RunsI F87 [.c 31, .lp 31, .blk 0, .c 43, .c 68] [(0, .slice none 0 0), (1, .int .u64 t13), (3, .bool (decide (p0 < 0))), (4, .bool false), (10, .slice none 0 0), (11, .string (⟨#[]⟩ : ByteArray)), (12, .pointer (some ⟨b14, 0, none⟩)), (13, .int .i64 t16), (14, .int .u64 4), (15, .int .u64 16), (16, .int .u64 15)] w R := by
 intro k
 induction k with
 | zero => intro t13 t15 t16 w h hH; exact absurd h (by simp [image_hex_28.l0])
 | succ k ih =>
  intro t13 t15 t16 w h hH
  rw [image_hex_28.l0.eq_2] at h
  refine RunsI.g 1 [.c 32, .c 37, .lp 31, .blk 0, .c 43, .c 68] ?_
  refine RunsI.g 1 [.c 33, .c 34, .c 37, .lp 31, .blk 0, .c 43, .c 68] ?_
  refine RunsI.r ?_
  refine RegI.p 3 [(0, .slice none 0 0), (1, .int .u64 t13), (3, .bool (decide (p0 < 0))), (4, .bool false), (10, .slice none 0 0), (11, .string (⟨#[]⟩ : ByteArray)), (12, .pointer (some ⟨b14, 0, none⟩)), (13, .int .i64 t16), (14, .int .u64 4), (15, .int .u64 16), (16, .int .u64 15), (46, .bool (decide (t13 ≥ 16)))] ?_
  refine RegI.d ?_
  rcases of_cond h with ⟨hc17, h⟩ | ⟨hc17, h⟩
  ·skip
   refine RunsI.f 46 true hc17 ?_
   refine RunsI.b true 35 ?_
   refine RunsI.g 1 [.c 37, .lp 31, .blk 0, .c 43, .c 68] ?_
   refine RunsI.g 2 [.c 39, .c 40, .blk 1, .lp 31, .blk 0, .c 43, .c 68] ?_
   refine RunsI.r ?_
   refine RegI.p 3 [(0, .slice none 0 0), (1, .int .u64 t13), (3, .bool (decide (p0 < 0))), (4, .bool false), (10, .slice none 0 0), (11, .string (⟨#[]⟩ : ByteArray)), (12, .pointer (some ⟨b14, 0, none⟩)), (13, .int .i64 (IntKind.wrap .i64 (t16 - 1))), (14, .int .u64 4), (15, .int .u64 16), (16, .int .u64 15)] ?_
   refine RegI.d ?_
   refine RunsI.g 1 [.c 41, .c 42, .blk 1, .lp 31, .blk 0, .c 43, .c 68] ?_
   refine RunsI.r ?_
   refine RegI.p 4 [(0, .slice none 0 0), (1, .int .u64 t13), (3, .bool (decide (p0 < 0))), (4, .bool false), (10, .slice none 0 0), (11, .string (⟨#[]⟩ : ByteArray)), (12, .pointer (some ⟨b14, 0, none⟩)), (13, .int .i64 (IntKind.wrap .i64 (t16 - 1))), (14, .int .u64 4), (15, .int .u64 16), (16, .int .u64 15), (49, .int .i64 (IntKind.wrap .i64 (t16 - 1))), (52, .int .u64 (band .u64 t13 15))] ?_
   obtain ⟨hc18, h⟩ := of_cond0 h
   refine RegI.o (OpE.run 53 (by kernel_rfl) (run_strIdx (T0 := 9) (s := (⟨#[48, 49, 50, 51, 52, 53, 54, 55, 56, 57, 97, 98, 99, 100, 101, 102, 103, 104, 105, 106, 107, 108, 109, 110, 111, 112, 113, 114, 115, 116, 117, 118, 119, 120, 121, 122]⟩ : ByteArray)) (j := (band .u64 t13 15)) (by kernel_rfl) (by kernel_rfl) hc18) ?_)
   obtain ⟨hc19, h⟩ := of_cond0 h
   refine RegI.o (OpE.run 54 (by kernel_rfl) (run_idxArr (T := 136) (b := b14) (o := 0) (ix := (IntKind.wrap .i64 (t16 - 1))) (len := 65) (s := 1) (by kernel_rfl) (by kernel_rfl) hc19) ?_)
   obtain ⟨hc20, h⟩ := of_cond0 h
   refine RegI.o (OpE.storeArr (en := (fun (x : Int) => ([.int .u8 x] : List Value))) 0 5 b14 1 (IntKind.wrap .i64 (t16 - 1)) (.int .u8 (btD (⟨#[48, 49, 50, 51, 52, 53, 54, 55, 56, 57, 97, 98, 99, 100, 101, 102, 103, 104, 105, 106, 107, 108, 109, 110, 111, 112, 113, 114, 115, 116, 117, 118, 119, 120, 121, 122]⟩ : ByteArray) (band .u64 t13 15))) (xs := t15) (btD (⟨#[48, 49, 50, 51, 52, 53, 54, 55, 56, 57, 97, 98, 99, 100, 101, 102, 103, 104, 105, 106, 107, 108, 109, 110, 111, 112, 113, 114, 115, 116, 117, 118, 119, 120, 121, 122]⟩ : ByteArray) (band .u64 t13 15)) (o := 0 + (Int.toNat (IntKind.wrap .i64 (t16 - 1))) * 1) hH (by kernel_rfl) (by kernel_rfl) rfl (fun _ => rfl) (by omega) (by kernel_rfl) (by kernel_rfl) hc20 ?_)
   intro w21 h22 hk23
   refine RegI.d ?_
   refine RunsI.r ?_
   refine RegI.p 4 [(0, .slice none 0 0), (1, .int .u64 (Int.fdiv t13 (2 ^ 4))), (3, .bool (decide (p0 < 0))), (4, .bool false), (10, .slice none 0 0), (11, .string (⟨#[]⟩ : ByteArray)), (12, .pointer (some ⟨b14, 0, none⟩)), (13, .int .i64 (IntKind.wrap .i64 (t16 - 1))), (14, .int .u64 4), (15, .int .u64 16), (16, .int .u64 15)] ?_
   refine RegI.d ?_
   refine RunsI.g 2 [.c 31, .lp 31, .blk 0, .c 43, .c 68] ?_
   refine RunsI.l [0, 1, 3, 4, 10, 11, 12, 13, 14, 15, 16] [(0, .slice none 0 0), (1, .int .u64 (Int.fdiv t13 (2 ^ 4))), (3, .bool (decide (p0 < 0))), (4, .bool false), (10, .slice none 0 0), (11, .string (⟨#[]⟩ : ByteArray)), (12, .pointer (some ⟨b14, 0, none⟩)), (13, .int .i64 (IntKind.wrap .i64 (t16 - 1))), (14, .int .u64 4), (15, .int .u64 16), (16, .int .u64 15)] ?_
   exact ih (Int.fdiv t13 (2 ^ 4)) (stD t15 (IntKind.wrap .i64 (t16 - 1)) (btD (⟨#[48, 49, 50, 51, 52, 53, 54, 55, 56, 57, 97, 98, 99, 100, 101, 102, 103, 104, 105, 106, 107, 108, 109, 110, 111, 112, 113, 114, 115, 116, 117, 118, 119, 120, 121, 122]⟩ : ByteArray) (band .u64 t13 15))) (IntKind.wrap .i64 (t16 - 1)) w21 h (h22.pick [0, 1, 2, 3] (by decide))
  ·skip
   refine RunsI.f 46 false hc17 ?_
   refine RunsI.b false 36 ?_
   refine RunsI.g 1 [.c 43, .c 68] ?_
   refine RunsI.l [0, 1, 3, 4, 10, 11, 12, 13] [(0, .slice none 0 0), (1, .int .u64 t13), (3, .bool (decide (p0 < 0))), (4, .bool false), (10, .slice none 0 0), (11, .string (⟨#[]⟩ : ByteArray)), (12, .pointer (some ⟨b14, 0, none⟩)), (13, .int .i64 t16)] ?_
   exact hk0 t13 t15 t16 w (Option.some.inj h).symm (hH.pick [0, 1, 2, 3] (by decide))
def image_hex_28.f (K : Nat) (p0 : Int) (p1 : Int) : Option ByteArray := Let (fun (t7 : Int) => (image_hex_28.l0 K p0 p1 K t7 (List.replicate 65 0) 65).bind (fun yx27 => cond (inR yx27.1 (⟨#[48, 49, 50, 51, 52, 53, 54, 55, 56, 57, 97, 98, 99, 100, 101, 102, 103, 104, 105, 106, 107, 108, 109, 110, 111, 112, 113, 114, 115, 116, 117, 118, 119, 120, 121, 122]⟩ : ByteArray).size) (cond (inR (IntKind.wrap .i64 (yx27.2.2 - 1)) 65) (cond (inR (IntKind.wrap .i64 (yx27.2.2 - 1)) yx27.2.1.length) (Let (fun (yj50 : (List Int) × Int) => cond (cutR yj50.2 65 65) (cond (Nat.beq yj50.1.length 65) ((strings_Repeat_53.f K (⟨#[48]⟩ : ByteArray) (if (IntKind.wrap .i64 (p1 - ((strOf (cutL yj50.1 yj50.2 65)).size : Int))) > 0 then (IntKind.wrap .i64 (p1 - ((strOf (cutL yj50.1 yj50.2 65)).size : Int))) else 0)).bind fun t59 => cond (mayCat t59.size (strOf (cutL yj50.1 yj50.2 65)).size) (some (t59 ++ (strOf (cutL yj50.1 yj50.2 65)))) none) none) none) (fun j50 => cond (decide (p0 < 0)) (cond (inR (IntKind.wrap .i64 ((IntKind.wrap .i64 (yx27.2.2 - 1)) - 1)) 65) (cond (inR (IntKind.wrap .i64 ((IntKind.wrap .i64 (yx27.2.2 - 1)) - 1)) (stD yx27.2.1 (IntKind.wrap .i64 (yx27.2.2 - 1)) (btD (⟨#[48, 49, 50, 51, 52, 53, 54, 55, 56, 57, 97, 98, 99, 100, 101, 102, 103, 104, 105, 106, 107, 108, 109, 110, 111, 112, 113, 114, 115, 116, 117, 118, 119, 120, 121, 122]⟩ : ByteArray) yx27.1)).length) (j50 ((stD (stD yx27.2.1 (IntKind.wrap .i64 (yx27.2.2 - 1)) (btD (⟨#[48, 49, 50, 51, 52, 53, 54, 55, 56, 57, 97, 98, 99, 100, 101, 102, 103, 104, 105, 106, 107, 108, 109, 110, 111, 112, 113, 114, 115, 116, 117, 118, 119, 120, 121, 122]⟩ : ByteArray) yx27.1)) (IntKind.wrap .i64 ((IntKind.wrap .i64 (yx27.2.2 - 1)) - 1)) 45), (IntKind.wrap .i64 ((IntKind.wrap .i64 (yx27.2.2 - 1)) - 1)))) none) none) (j50 ((stD yx27.2.1 (IntKind.wrap .i64 (yx27.2.2 - 1)) (btD (⟨#[48, 49, 50, 51, 52, 53, 54, 55, 56, 57, 97, 98, 99, 100, 101, 102, 103, 104, 105, 106, 107, 108, 109, 110, 111, 112, 113, 114, 115, 116, 117, 118, 119, 120, 121, 122]⟩ : ByteArray) yx27.1)), (IntKind.wrap .i64 (yx27.2.2 - 1)))))) none) none) none)) (fun j10 => cond (decide (p0 < 0)) (j10 (IntKind.wrap .u64 (0 - (IntKind.wrap .u64 p0)))) (j10 (IntKind.wrap .u64 p0)))
set_option maxRecDepth 100000 in
theorem image_hex_28_ok (K : Nat) (M0 : Nat → Prop) (w0 : World) (p0 : Int) (p1 : Int) (ho : ∀ b, M0 b → b < w0.heap.size) (hG1 : (gl 1 (tab_1.flatMap en_1)).ok w0 M0) (hG4 : (gl 4 (tab_4.flatMap en_4)).ok w0 M0) (hG5 : (gl 5 (tab_5.flatMap en_5)).ok w0 M0) {r : ByteArray} (h : image_hex_28.f K p0 p1 = some r) :
  Calls Tryd.prog 28 #[.int .i64 p0, .int .i64 p1] w0 (image_hex_28.post M0 w0 r) := by
 unfold image_hex_28.f at h
 have h0 : Holds M0 w0 w0 [] := Holds.start ho
 have h0g1 := h0.add (gl 1 (tab_1.flatMap en_1)) rfl ⟨hG1.1, fun hm => hG1.2.1 (hm.elim id (fun hm => absurd hm (by simp [mines, sl, gl]))), hG1.2.2⟩
 have h0g4 := h0g1.add (gl 4 (tab_4.flatMap en_4)) rfl ⟨hG4.1, fun hm => hG4.2.1 (hm.elim id (fun hm => absurd hm (by simp [mines, sl, gl]))), hG4.2.2⟩
 have h0g5 := h0g4.add (gl 5 (tab_5.flatMap en_5)) rfl ⟨hG5.1, fun hm => hG5.2.1 (hm.elim id (fun hm => absurd hm (by simp [mines, sl, gl]))), hG5.2.2⟩
 have h0 : Holds M0 w0 w0 [gl 1 (tab_1.flatMap en_1), gl 4 (tab_4.flatMap en_4), gl 5 (tab_5.flatMap en_5)] := h0g5
 refine calls_of F28 rfl [.int .i64 p0, .int .i64 p1] (by kernel_rfl) ?_
 refine RunsI.g 1 [.c 1, .c 2] ?_
 refine RunsI.r ?_
 refine RegI.p 1 [(0, .int .i64 p0), (1, .int .i64 p1)] ?_
 refine RegI.d ?_
 refine RunsI.g 1 [.c 3, .c 4] ?_
 refine RunsI.r ?_
 refine RegI.p 1 [(1, .int .i64 p1), (6, .int .i64 p0)] ?_
 refine RegI.enter 7 [1] [(1, .int .i64 p1)] (by kernel_rfl) (by kernel_rfl) (by kernel_rfl) (by kernel_rfl) F52 52 rfl [.int .i64 p0, .int .i64 16] (by kernel_rfl) (by kernel_rfl) ?_
 refine RunsI.g 1 [.c 1, .c 2] ?_
 refine RunsI.r ?_
 refine RegI.p 1 [(0, .int .i64 p0), (1, .int .i64 16)] ?_
 refine RegI.d ?_
 refine RunsI.g 1 [.c 3, .c 4] ?_
 refine RunsI.r ?_
 refine RegI.p 2 [(5, .int .i64 p0), (6, .int .i64 16)] ?_
 refine RegI.enter 7 [] [] (by kernel_rfl) (by kernel_rfl) (by kernel_rfl) (by kernel_rfl) F68 68 rfl [.int .i64 p0, .int .i64 16] (by kernel_rfl) (by kernel_rfl) ?_
 refine RunsI.g 1 [.c 1, .c 2] ?_
 refine RunsI.r ?_
 refine RegI.p 1 [(0, .int .i64 p0), (1, .int .i64 16)] ?_
 refine RegI.d ?_
 refine RunsI.g 2 [.c 4, .c 5, .c 42] ?_
 refine RunsI.r ?_
 refine RegI.p 2 [(0, .int .i64 p0), (1, .int .i64 16), (11, .bool false)] ?_
 refine RegI.d ?_
 refine RunsI.b false 41 ?_
 refine RunsI.g 2 [.c 43, .c 44] ?_
 refine RunsI.r ?_
 refine RegI.p 5 [(46, .int .u64 (IntKind.wrap .u64 p0)), (47, .int .i64 16), (49, .bool (decide (p0 < 0)))] ?_
 refine RegI.enter 50 [] [] (by kernel_rfl) (by kernel_rfl) (by kernel_rfl) (by kernel_rfl) F87 87 rfl [.slice none 0 0, .int .u64 (IntKind.wrap .u64 p0), .int .i64 16, .bool (decide (p0 < 0)), .bool false] (by kernel_rfl) (by kernel_rfl) ?_
 refine RunsI.g 1 [.c 1, .c 2] ?_
 refine RunsI.r ?_
 refine RegI.p 2 [(0, .slice none 0 0), (1, .int .u64 (IntKind.wrap .u64 p0)), (2, .int .i64 16), (3, .bool (decide (p0 < 0))), (4, .bool false), (10, .slice none 0 0), (11, .string (⟨#[]⟩ : ByteArray))] ?_
 refine RegI.d ?_
 refine RunsI.g 2 [.c 4, .c 5, .c 8] ?_
 refine RunsI.r ?_
 refine RegI.p 10 [(0, .slice none 0 0), (1, .int .u64 (IntKind.wrap .u64 p0)), (2, .int .i64 16), (3, .bool (decide (p0 < 0))), (4, .bool false), (10, .slice none 0 0), (11, .string (⟨#[]⟩ : ByteArray)), (28, .bool false)] ?_
 refine RegI.d ?_
 refine RunsI.b false 7 ?_
 refine RunsI.g 2 [.c 9, .c 10] ?_
 refine RunsI.r ?_
 refine RegI.o (OpE.box 12 136 (List.flatMap (fun (x : Int) => ([.int .u8 x] : List Value)) (List.replicate 65 0)) h0 (by kernel_rfl) (by kernel_rfl) ?_)
 intro w1 b2 h3 hb4 hn5
 refine RegI.d ?_
 refine RunsI.g 1 [.c 11, .c 12] ?_
 refine RunsI.r ?_
 refine RegI.p 1 [(0, .slice none 0 0), (1, .int .u64 (IntKind.wrap .u64 p0)), (2, .int .i64 16), (3, .bool (decide (p0 < 0))), (4, .bool false), (10, .slice none 0 0), (11, .string (⟨#[]⟩ : ByteArray)), (12, .pointer (some ⟨b2, 0, none⟩)), (13, .int .i64 65)] ?_
 refine RegI.d ?_
 refine RunsI.g 2 [.c 14, .c 15, .c 18] ?_
 refine RunsI.r ?_
 refine RegI.p 1 [(0, .slice none 0 0), (1, .int .u64 (IntKind.wrap .u64 p0)), (2, .int .i64 16), (3, .bool (decide (p0 < 0))), (4, .bool false), (10, .slice none 0 0), (11, .string (⟨#[]⟩ : ByteArray)), (12, .pointer (some ⟨b2, 0, none⟩)), (13, .int .i64 65), (30, .bool (decide (p0 < 0)))] ?_
 refine RegI.d ?_
 obtain ⟨j10, hJ11, h⟩ := of_let h
 have hj12 : ∀ (t7 : Int) (w9 : World), j10 t7 = some r → Holds M0 w0 w9 [box b2 136 (List.flatMap (fun (x : Int) => ([.int .u8 x] : List Value)) (List.replicate 65 0)), gl 1 (tab_1.flatMap en_1), gl 4 (tab_4.flatMap en_4), gl 5 (tab_5.flatMap en_5)] → RunsI F87 [.c 18] [(0, .slice none 0 0), (1, .int .u64 t7), (2, .int .i64 16), (3, .bool (decide (p0 < 0))), (4, .bool false), (10, .slice none 0 0), (11, .string (⟨#[]⟩ : ByteArray)), (12, .pointer (some ⟨b2, 0, none⟩)), (13, .int .i64 65)] w9 (cont (fun e' w' => RegI F68 43 [.c 44] 6 e' w' (cont (fun e' w' => RegI F52 3 [.c 4] 3 e' w' (cont (fun e' w' => RegI F28 3 [.c 4] 2 e' w' (image_hex_28.post M0 w0 r)) 7 [(1, .int .i64 p1)])) 7 [])) 50 []) := by
  intro t7 w9 h h8
  rw [hJ11] at h
  clear hJ11
  dsimp only at h
  refine RunsI.g 2 [.c 20, .c 21, .c 68] ?_
  refine RunsI.r ?_
  refine RegI.p 1 [(0, .slice none 0 0), (1, .int .u64 t7), (2, .int .i64 16), (3, .bool (decide (p0 < 0))), (4, .bool false), (10, .slice none 0 0), (11, .string (⟨#[]⟩ : ByteArray)), (12, .pointer (some ⟨b2, 0, none⟩)), (13, .int .i64 65), (33, .int .i64 16)] ?_
  refine RegI.enter 34 [0, 1, 2, 3, 4, 10, 11, 12, 13] [(0, .slice none 0 0), (1, .int .u64 t7), (2, .int .i64 16), (3, .bool (decide (p0 < 0))), (4, .bool false), (10, .slice none 0 0), (11, .string (⟨#[]⟩ : ByteArray)), (12, .pointer (some ⟨b2, 0, none⟩)), (13, .int .i64 65)] (by kernel_rfl) (by kernel_rfl) (by kernel_rfl) (by kernel_rfl) F99 99 rfl [.int .i64 16] (by kernel_rfl) (by kernel_rfl) ?_
  refine RunsI.g 1 [.c 1, .c 2] ?_
  refine RunsI.r ?_
  refine RegI.p 1 [(0, .int .i64 16)] ?_
  refine RegI.d ?_
  refine RunsI.g 1 [.c 3, .c 4] ?_
  refine RunsI.r ?_
  refine RegI.p 6 [(2, .bool true)] ?_
  refine RegI.d ?_
  refine RunsI.t (.bool true) ?_
  refine cont_mk ?_
  refine RegI.d ?_
  refine RunsI.b true 22 ?_
  refine RunsI.g 1 [.c 23, .c 24, .c 68] ?_
  refine RunsI.r ?_
  refine RegI.p 2 [(0, .slice none 0 0), (1, .int .u64 t7), (2, .int .i64 16), (3, .bool (decide (p0 < 0))), (4, .bool false), (10, .slice none 0 0), (11, .string (⟨#[]⟩ : ByteArray)), (12, .pointer (some ⟨b2, 0, none⟩)), (13, .int .i64 65), (36, .int .u64 16)] ?_
  refine RegI.enter 37 [0, 1, 2, 3, 4, 10, 11, 12, 13] [(0, .slice none 0 0), (1, .int .u64 t7), (2, .int .i64 16), (3, .bool (decide (p0 < 0))), (4, .bool false), (10, .slice none 0 0), (11, .string (⟨#[]⟩ : ByteArray)), (12, .pointer (some ⟨b2, 0, none⟩)), (13, .int .i64 65)] (by kernel_rfl) (by kernel_rfl) (by kernel_rfl) (by kernel_rfl) F100 100 rfl [.int .u64 16] (by kernel_rfl) (by kernel_rfl) ?_
  refine RunsI.g 1 [.c 1, .c 2] ?_
  refine RunsI.r ?_
  refine RegI.p 1 [(0, .int .u64 16)] ?_
  refine RegI.d ?_
  refine RunsI.g 1 [.c 3, .c 8] ?_
  refine RunsI.b false 7 ?_
  refine RunsI.g 2 [.c 9, .c 10] ?_
  refine RunsI.r ?_
  refine RegI.p 1 [(6, .int .u64 16)] ?_
  refine RegI.enter 7 [] [] (by kernel_rfl) (by kernel_rfl) (by kernel_rfl) (by kernel_rfl) F103 103 rfl [.int .u64 16] (by kernel_rfl) (by kernel_rfl) ?_
  refine RunsI.g 1 [.c 1, .c 2] ?_
  refine RunsI.r ?_
  refine RegI.p 1 [(0, .int .u64 16)] ?_
  refine RegI.d ?_
  refine RunsI.g 2 [.c 4, .c 5, .c 10] ?_
  refine RunsI.r ?_
  refine RegI.p 2 [(0, .int .u64 16), (4, .bool false)] ?_
  refine RegI.d ?_
  refine RunsI.b false 9 ?_
  refine RunsI.g 2 [.c 11, .c 12] ?_
  refine RunsI.r ?_
  refine RegI.p 6 [(10, .int .u64 15)] ?_
  refine RegI.o (OpE.run 11 (by kernel_rfl) (run_idxArr (T := 145) (b := 5) (o := 0) (ix := 15) (len := 64) (s := 1) (by kernel_rfl) (by kernel_rfl) (by kernel_rfl)) ?_)
  refine RegI.o (OpE.loadTab 12 3 5 en_5 tab_5 0 1 15 (.int .u8 4) (o := 0 + (Int.toNat 15) * 1 + 0) h8 (by kernel_rfl) rfl (fun _ => rfl) (by kernel_rfl) (by omega) (by kernel_rfl) (fun _ => by kernel_rfl) ?_)
  refine RegI.p 2 [(2, .int .i64 4)] ?_
  refine RegI.d ?_
  refine RunsI.t (.int .i64 4) ?_
  refine cont_mk ?_
  refine RegI.p 1 [(2, .int .i64 4)] ?_
  refine RegI.d ?_
  refine RunsI.t (.int .i64 4) ?_
  refine cont_mk ?_
  refine RegI.p 2 [(0, .slice none 0 0), (1, .int .u64 t7), (2, .int .i64 16), (3, .bool (decide (p0 < 0))), (4, .bool false), (10, .slice none 0 0), (11, .string (⟨#[]⟩ : ByteArray)), (12, .pointer (some ⟨b2, 0, none⟩)), (13, .int .i64 65), (14, .int .u64 4)] ?_
  refine RegI.d ?_
  refine RunsI.g 1 [.c 25, .c 26, .c 68] ?_
  refine RunsI.r ?_
  refine RegI.p 3 [(0, .slice none 0 0), (1, .int .u64 t7), (2, .int .i64 16), (3, .bool (decide (p0 < 0))), (4, .bool false), (10, .slice none 0 0), (11, .string (⟨#[]⟩ : ByteArray)), (12, .pointer (some ⟨b2, 0, none⟩)), (13, .int .i64 65), (14, .int .u64 4), (15, .int .u64 16)] ?_
  refine RegI.d ?_
  refine RunsI.g 1 [.c 27, .c 28, .c 68] ?_
  refine RunsI.r ?_
  refine RegI.p 4 [(0, .slice none 0 0), (1, .int .u64 t7), (3, .bool (decide (p0 < 0))), (4, .bool false), (10, .slice none 0 0), (11, .string (⟨#[]⟩ : ByteArray)), (12, .pointer (some ⟨b2, 0, none⟩)), (13, .int .i64 65), (14, .int .u64 4), (15, .int .u64 16), (16, .int .u64 15)] ?_
  refine RegI.d ?_
  refine RunsI.g 3 [.c 31, .lp 31, .blk 0, .c 43, .c 68] ?_
  obtain ⟨x27, hx28, h⟩ := of_bind h
  refine RunsI.l [0, 1, 3, 4, 10, 11, 12, 13, 14, 15, 16] [(0, .slice none 0 0), (1, .int .u64 t7), (3, .bool (decide (p0 < 0))), (4, .bool false), (10, .slice none 0 0), (11, .string (⟨#[]⟩ : ByteArray)), (12, .pointer (some ⟨b2, 0, none⟩)), (13, .int .i64 65), (14, .int .u64 4), (15, .int .u64 16), (16, .int .u64 15)] ?_
  refine image_hex_28.l0_ok K M0 w0 p0 p1 b2 _ x27 ?_ K t7 (List.replicate 65 0) 65 w9 hx28 (h8.pick [0, 1, 2, 3] (by decide))
  ·intro t29 t30 t31 w33 hq61 h32
   (try rw [hq61] at h)
   dsimp only at h
   refine RunsI.g 1 [.c 44, .c 45, .c 68] ?_
   refine RunsI.r ?_
   refine RegI.p 3 [(0, .slice none 0 0), (1, .int .u64 t29), (3, .bool (decide (p0 < 0))), (4, .bool false), (10, .slice none 0 0), (11, .string (⟨#[]⟩ : ByteArray)), (12, .pointer (some ⟨b2, 0, none⟩)), (13, .int .i64 (IntKind.wrap .i64 (t31 - 1)))] ?_
   refine RegI.d ?_
   refine RunsI.r ?_
   refine RegI.p 2 [(0, .slice none 0 0), (3, .bool (decide (p0 < 0))), (4, .bool false), (10, .slice none 0 0), (11, .string (⟨#[]⟩ : ByteArray)), (12, .pointer (some ⟨b2, 0, none⟩)), (13, .int .i64 (IntKind.wrap .i64 (t31 - 1))), (60, .int .i64 (IntKind.wrap .i64 (t31 - 1))), (61, .int .u64 t29)] ?_
   obtain ⟨hc34, h⟩ := of_cond0 h
   refine RegI.o (OpE.run 62 (by kernel_rfl) (run_strIdx (T0 := 9) (s := (⟨#[48, 49, 50, 51, 52, 53, 54, 55, 56, 57, 97, 98, 99, 100, 101, 102, 103, 104, 105, 106, 107, 108, 109, 110, 111, 112, 113, 114, 115, 116, 117, 118, 119, 120, 121, 122]⟩ : ByteArray)) (j := t29) (by kernel_rfl) (by kernel_rfl) hc34) ?_)
   obtain ⟨hc35, h⟩ := of_cond0 h
   refine RegI.o (OpE.run 63 (by kernel_rfl) (run_idxArr (T := 136) (b := b2) (o := 0) (ix := (IntKind.wrap .i64 (t31 - 1))) (len := 65) (s := 1) (by kernel_rfl) (by kernel_rfl) hc35) ?_)
   obtain ⟨hc36, h⟩ := of_cond0 h
   refine RegI.o (OpE.storeArr (en := (fun (x : Int) => ([.int .u8 x] : List Value))) 0 5 b2 1 (IntKind.wrap .i64 (t31 - 1)) (.int .u8 (btD (⟨#[48, 49, 50, 51, 52, 53, 54, 55, 56, 57, 97, 98, 99, 100, 101, 102, 103, 104, 105, 106, 107, 108, 109, 110, 111, 112, 113, 114, 115, 116, 117, 118, 119, 120, 121, 122]⟩ : ByteArray) t29)) (xs := t30) (btD (⟨#[48, 49, 50, 51, 52, 53, 54, 55, 56, 57, 97, 98, 99, 100, 101, 102, 103, 104, 105, 106, 107, 108, 109, 110, 111, 112, 113, 114, 115, 116, 117, 118, 119, 120, 121, 122]⟩ : ByteArray) t29) (o := 0 + (Int.toNat (IntKind.wrap .i64 (t31 - 1))) * 1) h32 (by kernel_rfl) (by kernel_rfl) rfl (fun _ => rfl) (by omega) (by kernel_rfl) (by kernel_rfl) hc36 ?_)
   intro w37 h38 hk39
   refine RegI.d ?_
   refine RunsI.g 2 [.c 70, .c 71, .c 76] ?_
   refine RunsI.r ?_
   refine RegI.p 1 [(0, .slice none 0 0), (4, .bool false), (10, .slice none 0 0), (11, .string (⟨#[]⟩ : ByteArray)), (12, .pointer (some ⟨b2, 0, none⟩)), (13, .int .i64 (IntKind.wrap .i64 (t31 - 1))), (89, .bool (decide (p0 < 0)))] ?_
   refine RegI.d ?_
   obtain ⟨j50, hJ51, h⟩ := of_let h
   have hj52 : ∀ (t46 : List Int) (t47 : Int) (w49 : World), j50 (t46, t47) = some r → Holds M0 w0 w49 [box b2 136 (List.flatMap (fun (x : Int) => ([.int .u8 x] : List Value)) t46), gl 1 (tab_1.flatMap en_1), gl 4 (tab_4.flatMap en_4), gl 5 (tab_5.flatMap en_5)] → RunsI F87 [.c 76] [(0, .slice none 0 0), (4, .bool false), (10, .slice none 0 0), (11, .string (⟨#[]⟩ : ByteArray)), (12, .pointer (some ⟨b2, 0, none⟩)), (13, .int .i64 t47)] w49 (cont (fun e' w' => RegI F68 43 [.c 44] 6 e' w' (cont (fun e' w' => RegI F52 3 [.c 4] 3 e' w' (cont (fun e' w' => RegI F28 3 [.c 4] 2 e' w' (image_hex_28.post M0 w0 r)) 7 [(1, .int .i64 p1)])) 7 [])) 50 []) := by
    intro t46 t47 w49 h h48
    rw [hJ51] at h
    clear hJ51
    dsimp only at h
    refine RunsI.g 2 [.c 78, .c 79, .c 84] ?_
    refine RunsI.r ?_
    refine RegI.p 1 [(0, .slice none 0 0), (10, .slice none 0 0), (11, .string (⟨#[]⟩ : ByteArray)), (12, .pointer (some ⟨b2, 0, none⟩)), (13, .int .i64 t47), (94, .bool false)] ?_
    refine RegI.d ?_
    refine RunsI.b false 83 ?_
    refine RunsI.g 2 [.c 85, .c 86] ?_
    refine RunsI.r ?_
    refine RegI.p 1 [(10, .slice none 0 0), (12, .pointer (some ⟨b2, 0, none⟩)), (99, .int .i64 t47)] ?_
    obtain ⟨hc53, h⟩ := of_cond0 h
    refine RegI.o (OpE.run 100 (by kernel_rfl) (run_cutArr (T := 136) (b := b2) (lo := (some t47)) (hi := none) (len := 65) (sz := 1) (by kernel_rfl) (by kernel_rfl) hc53) ?_)
    obtain ⟨hc54, h⟩ := of_cond0 h
    refine RegI.o (OpE.run 101 (by kernel_rfl) (run_toStr (s := 22) (d := 9) (v := (slicedAt ⟨b2, 0, none⟩ (Int.toNat t47) (Int.toNat 65) 65 1)) (by kernel_rfl) (by kernel_rfl) (h48.rdArr 0 rfl t47 65 hc54 hc53)) ?_)
    refine RegI.p 1 [(10, .slice none 0 0), (11, .string (strOf (cutL t46 t47 65)))] ?_
    refine RegI.d ?_
    refine RunsI.t (.tuple #[.slice none 0 0, .string (strOf (cutL t46 t47 65))]) ?_
    refine cont_mk ?_
    refine RegI.p 5 [(9, .string (strOf (cutL t46 t47 65)))] ?_
    refine RegI.d ?_
    refine RunsI.g 1 [.c 45, .c 46] ?_
    refine RunsI.r ?_
    refine RegI.p 2 [(4, .string (strOf (cutL t46 t47 65)))] ?_
    refine RegI.d ?_
    refine RunsI.t (.string (strOf (cutL t46 t47 65))) ?_
    refine cont_mk ?_
    refine RegI.p 1 [(4, .string (strOf (cutL t46 t47 65)))] ?_
    refine RegI.d ?_
    refine RunsI.t (.string (strOf (cutL t46 t47 65))) ?_
    refine cont_mk ?_
    refine RegI.p 1 [(1, .int .i64 p1), (5, .string (strOf (cutL t46 t47 65)))] ?_
    refine RegI.d ?_
    refine RunsI.g 1 [.c 5, .c 6] ?_
    refine RunsI.r ?_
    refine RegI.p 5 [(5, .string (strOf (cutL t46 t47 65))), (12, .int .i64 (if (IntKind.wrap .i64 (p1 - ((strOf (cutL t46 t47 65)).size : Int))) > 0 then (IntKind.wrap .i64 (p1 - ((strOf (cutL t46 t47 65)).size : Int))) else 0))] ?_
    obtain ⟨t59, hg58, h⟩ := of_bind h
    refine RegI.o (OpE.call 13 (by kernel_rfl) 53 #[.string (⟨#[48]⟩ : ByteArray), .int .i64 (if (IntKind.wrap .i64 (p1 - ((strOf (cutL t46 t47 65)).size : Int))) > 0 then (IntKind.wrap .i64 (p1 - ((strOf (cutL t46 t47 65)).size : Int))) else 0)] (by kernel_rfl) ((strings_Repeat_53_ok K _ w49  (⟨#[48]⟩ : ByteArray) (if (IntKind.wrap .i64 (p1 - ((strOf (cutL t46 t47 65)).size : Int))) > 0 then (IntKind.wrap .i64 (p1 - ((strOf (cutL t46 t47 65)).size : Int))) else 0) h48.old' hg58).mono ?_))
    rintro _ w55 ⟨rfl, hb56⟩
    refine ⟨_, rfl, ?_⟩
    have h57 := h48.call hb56
    refine RegI.p 1 [(13, .string t59), (14, .string (strOf (cutL t46 t47 65)))] ?_
    obtain ⟨hc60, h⟩ := of_cond0 h
    refine RegI.o (OpE.run 15 (by kernel_rfl) (run_cat (a := t59) (b := (strOf (cutL t46 t47 65))) (by kernel_rfl) hc60) ?_)
    refine RegI.p 1 [(4, .string (t59 ++ (strOf (cutL t46 t47 65))))] ?_
    refine RegI.d ?_
    refine RunsI.t (.string (t59 ++ (strOf (cutL t46 t47 65)))) ?_
    obtain rfl := Option.some.inj h
    exact ⟨rfl, h57.below⟩
   clear hJ51
   rcases of_cond h with ⟨hc40, h⟩ | ⟨hc40, h⟩
   ·skip
    refine RunsI.f 89 true hc40 ?_
    refine RunsI.b true 72 ?_
    refine RunsI.g 1 [.c 73, .c 74, .c 76] ?_
    refine RunsI.r ?_
    refine RegI.p 3 [(0, .slice none 0 0), (4, .bool false), (10, .slice none 0 0), (11, .string (⟨#[]⟩ : ByteArray)), (12, .pointer (some ⟨b2, 0, none⟩)), (13, .int .i64 (IntKind.wrap .i64 ((IntKind.wrap .i64 (t31 - 1)) - 1)))] ?_
    refine RegI.d ?_
    refine RunsI.r ?_
    refine RegI.p 1 [(0, .slice none 0 0), (4, .bool false), (10, .slice none 0 0), (11, .string (⟨#[]⟩ : ByteArray)), (12, .pointer (some ⟨b2, 0, none⟩)), (13, .int .i64 (IntKind.wrap .i64 ((IntKind.wrap .i64 (t31 - 1)) - 1))), (92, .int .i64 (IntKind.wrap .i64 ((IntKind.wrap .i64 (t31 - 1)) - 1)))] ?_
    obtain ⟨hc41, h⟩ := of_cond0 h
    refine RegI.o (OpE.run 93 (by kernel_rfl) (run_idxArr (T := 136) (b := b2) (o := 0) (ix := (IntKind.wrap .i64 ((IntKind.wrap .i64 (t31 - 1)) - 1))) (len := 65) (s := 1) (by kernel_rfl) (by kernel_rfl) hc41) ?_)
    obtain ⟨hc42, h⟩ := of_cond0 h
    refine RegI.o (OpE.storeArr (en := (fun (x : Int) => ([.int .u8 x] : List Value))) 0 5 b2 1 (IntKind.wrap .i64 ((IntKind.wrap .i64 (t31 - 1)) - 1)) (.int .u8 45) (xs := (stD t30 (IntKind.wrap .i64 (t31 - 1)) (btD (⟨#[48, 49, 50, 51, 52, 53, 54, 55, 56, 57, 97, 98, 99, 100, 101, 102, 103, 104, 105, 106, 107, 108, 109, 110, 111, 112, 113, 114, 115, 116, 117, 118, 119, 120, 121, 122]⟩ : ByteArray) t29))) 45 (o := 0 + (Int.toNat (IntKind.wrap .i64 ((IntKind.wrap .i64 (t31 - 1)) - 1))) * 1) h38 (by kernel_rfl) (by kernel_rfl) rfl (fun _ => rfl) (by omega) (by kernel_rfl) (by kernel_rfl) hc42 ?_)
    intro w43 h44 hk45
    refine RegI.d ?_
    refine RunsI.l [0, 4, 10, 11, 12, 13] [(0, .slice none 0 0), (4, .bool false), (10, .slice none 0 0), (11, .string (⟨#[]⟩ : ByteArray)), (12, .pointer (some ⟨b2, 0, none⟩)), (13, .int .i64 (IntKind.wrap .i64 ((IntKind.wrap .i64 (t31 - 1)) - 1)))] ?_
    exact hj52 (stD (stD t30 (IntKind.wrap .i64 (t31 - 1)) (btD (⟨#[48, 49, 50, 51, 52, 53, 54, 55, 56, 57, 97, 98, 99, 100, 101, 102, 103, 104, 105, 106, 107, 108, 109, 110, 111, 112, 113, 114, 115, 116, 117, 118, 119, 120, 121, 122]⟩ : ByteArray) t29)) (IntKind.wrap .i64 ((IntKind.wrap .i64 (t31 - 1)) - 1)) 45) (IntKind.wrap .i64 ((IntKind.wrap .i64 (t31 - 1)) - 1)) w43 h (h44.pick [0, 1, 2, 3] (by decide))
   ·skip
    refine RunsI.f 89 false hc40 ?_
    refine RunsI.b false 75 ?_
    refine RunsI.g 1 [.c 76] ?_
    refine RunsI.l [0, 4, 10, 11, 12, 13] [(0, .slice none 0 0), (4, .bool false), (10, .slice none 0 0), (11, .string (⟨#[]⟩ : ByteArray)), (12, .pointer (some ⟨b2, 0, none⟩)), (13, .int .i64 (IntKind.wrap .i64 (t31 - 1)))] ?_
    exact hj52 (stD t30 (IntKind.wrap .i64 (t31 - 1)) (btD (⟨#[48, 49, 50, 51, 52, 53, 54, 55, 56, 57, 97, 98, 99, 100, 101, 102, 103, 104, 105, 106, 107, 108, 109, 110, 111, 112, 113, 114, 115, 116, 117, 118, 119, 120, 121, 122]⟩ : ByteArray) t29)) (IntKind.wrap .i64 (t31 - 1)) w37 h (h38.pick [0, 1, 2, 3] (by decide))
 clear hJ11
 rcases of_cond h with ⟨hc6, h⟩ | ⟨hc6, h⟩
 ·skip
  refine RunsI.f 30 true hc6 ?_
  refine RunsI.b true 16 ?_
  refine RunsI.r ?_
  refine RegI.p 3 [(0, .slice none 0 0), (1, .int .u64 (IntKind.wrap .u64 (0 - (IntKind.wrap .u64 p0)))), (2, .int .i64 16), (3, .bool (decide (p0 < 0))), (4, .bool false), (10, .slice none 0 0), (11, .string (⟨#[]⟩ : ByteArray)), (12, .pointer (some ⟨b2, 0, none⟩)), (13, .int .i64 65)] ?_
  refine RegI.d ?_
  refine RunsI.l [0, 1, 2, 3, 4, 10, 11, 12, 13] [(0, .slice none 0 0), (1, .int .u64 (IntKind.wrap .u64 (0 - (IntKind.wrap .u64 p0)))), (2, .int .i64 16), (3, .bool (decide (p0 < 0))), (4, .bool false), (10, .slice none 0 0), (11, .string (⟨#[]⟩ : ByteArray)), (12, .pointer (some ⟨b2, 0, none⟩)), (13, .int .i64 65)] ?_
  exact hj12 (IntKind.wrap .u64 (0 - (IntKind.wrap .u64 p0))) w1 h (h3.pick [3, 0, 1, 2] (by decide))
 ·skip
  refine RunsI.f 30 false hc6 ?_
  refine RunsI.b false 17 ?_
  refine RunsI.g 1 [.c 18] ?_
  refine RunsI.l [0, 1, 2, 3, 4, 10, 11, 12, 13] [(0, .slice none 0 0), (1, .int .u64 (IntKind.wrap .u64 p0)), (2, .int .i64 16), (3, .bool (decide (p0 < 0))), (4, .bool false), (10, .slice none 0 0), (11, .string (⟨#[]⟩ : ByteArray)), (12, .pointer (some ⟨b2, 0, none⟩)), (13, .int .i64 65)] ?_
  exact hj12 (IntKind.wrap .u64 p0) w1 h (h3.pick [3, 0, 1, 2] (by decide))
end

/-! ### (*strings.Builder).String (function 29) -/
section
theorem strings_Builder_String_29_ok {M0 : Nat → Prop} {w0 w : World} {H : List Chunk} (c : Nat) {b cp : Nat} {A : Option Addr} {l : List UInt8} (hH : Holds M0 w0 w H) (hi : H[c]? = some (bl 68 5 b (.slice A l.length cp) A cp l)) (hR : Nat.blt 0 l.length = true) :
  Calls Tryd.prog 29 #[.pointer (some ⟨b, 0, none⟩)] w fun e w' => e = .returned (.string ⟨l.toArray⟩) ∧ Holds M0 w0 w' (H.set c (dead b)) := by
 obtain ⟨p, g, cur, hA, hcp, hgb, hb, hg, ho, hc, h63⟩ := bl_row hH hi hR
 have hbase := bl_base hH hi hA
 have hbl : b < w.heap.size := (Array.getElem?_eq_some_iff.1 hb).1
 have hgl : g < w.heap.size := (Array.getElem?_eq_some_iff.1 hg).1
 have hld : ∀ w', Kp [g] w w' → w'.heap[b]? = some (.cells #[p, .slice A l.length cp] 68 (0, 0)) := fun w' hk => (hk.2 b hbl (fun e => hgb (List.mem_singleton.1 e).symm)).trans hb
 refine calls_of F29 rfl [.pointer (some ⟨b, 0, none⟩)] (by kernel_rfl) ?_
 refine RunsI.g 1 [.c 1, .c 2] ?_
 refine RunsI.r ?_
 refine RegI.p 1 [(0, .pointer (some ⟨b, 0, none⟩))] ?_
 refine RegI.d ?_
 refine RunsI.g 1 [.c 3, .c 4] ?_
 refine RunsI.any 12 (by kernel_rfl) (by kernel_rfl) (by kernel_rfl) (Kp [g] w) ?_
 have hS : Kp [g] w w.drew := Kp.drew [g] w
 have hB : Below w.heap.size w w.drew := (Below.refl _ w).drew
 have hd : w.drew.heap = w.heap := rfl
 generalize w.drew = ws at hS hB hd ⊢
 refine AnyE.pure 0 3 (.pointer (some ⟨b, 0, none⟩)) (by kernel_rfl) hS (fun _ => by kernel_rfl) ?_
 refine AnyE.pure 1 4 (.pointer (some ⟨b, 0, none⟩)) (by kernel_rfl) hS (fun _ => by kernel_rfl) ?_
 refine AnyE.pure 2 5 (.pointer (some ⟨b, 1, none⟩)) (by kernel_rfl) hS (fun _ => by kernel_rfl) ?_
 refine AnyE.take 3 6 (.slice A l.length cp) Kp.sup (by kernel_rfl) hS (fun w' hk => .inl (Go.Eng.run_load 22 (b := b) (o := 1) (cs := [.slice A l.length cp]) (by kernel_rfl) (box_cells (cs := [p, .slice A l.length cp]) (hld w' hk) 1) (by kernel_rfl))) ?_
 refine AnyE.take 4 7 (.pointer (some ⟨g, 0, none⟩)) Kp.sup (by subst hA; kernel_rfl) hS (fun w' hk => .inl (run_usData (m := l.length) (cp := cp) (by subst hA; kernel_rfl) hcp)) ?_
 refine AnyE.pure 5 8 (.pointer (some ⟨b, 0, none⟩)) (by kernel_rfl) hS (fun _ => by kernel_rfl) ?_
 refine AnyE.pure 6 9 (.pointer (some ⟨b, 0, none⟩)) (by kernel_rfl) hS (fun _ => by kernel_rfl) ?_
 refine AnyE.pure 7 10 (.pointer (some ⟨b, 1, none⟩)) (by kernel_rfl) hS (fun _ => by kernel_rfl) ?_
 refine AnyE.take 8 11 (.slice A l.length cp) Kp.sup (by kernel_rfl) hS (fun w' hk => .inl (Go.Eng.run_load 22 (b := b) (o := 1) (cs := [.slice A l.length cp]) (by kernel_rfl) (box_cells (cs := [p, .slice A l.length cp]) (hld w' hk) 1) (by kernel_rfl))) ?_
 refine AnyE.pure 9 12 (.int .i64 l.length) (by kernel_rfl) hS (fun _ => by kernel_rfl) ?_
 refine AnyE.one 10 (by kernel_rfl) (fun w2 hu => ?_)
 have hg2 : w2.heap[g]? = some (.cells cur 5 (0, 0)) := (hu.block g (by rw [hd]; exact hgl)).trans (by rw [hd]; exact hg)
 have ho2 : w2.ownsRow 0 5 1 (.slice A l.length cp) l.length (Lib.byteCells l) := by
  refine ⟨ho.1, ?_⟩
  rcases ho.2 with hn | ⟨g', cap, cur', hv, h0, hg', rest⟩
  ·exact .inl hn
  ·have e : g' = g := by rw [hA] at hv; cases hv; rfl
   subst e
   rw [hg] at hg'
   cases hg'
   exact .inr ⟨g', cap, cur, hv, h0, hg2, rest⟩
 have hk2 : Kp [g] w (w2.freeze ⟨g, 0, none⟩ l.length) := (hS.up hu).freeze
 have hB2 : Below w0.heap.size w (w2.freeze ⟨g, 0, none⟩ l.length) := Up.freezeBelow ((hB.trans (hu.mono (by rw [hd]; exact Nat.le_refl _))).mono hH.below.size) hbase
 refine OpE.run 13 (by kernel_rfl) (run_usStr (T := 97) (U := 3) (by kernel_rfl) (bl_str Tryd.underlying97 (by kernel_rfl) ho2 hA hg2 hR hc h63)) ?_
 refine ⟨hk2, ?_⟩
 refine AnyE.pure 11 2 (.string ⟨l.toArray⟩) (by kernel_rfl) hk2 (fun _ => by kernel_rfl) ?_
 refine AnyE.done (by kernel_rfl) (fun w3 hu3 => ?_)
 refine RunsI.t (.string ⟨l.toArray⟩) ?_
 refine ⟨rfl, hH.blDone hi hA (hk2.up hu3) (hB2.trans (Below.mono hu3 ?_))⟩
 have := hB2.size
 have := hH.below.size
 omega
end


/-! ### charabanc/image.Digits (function 13) -/
section
def image_Digits_13.post (M0 : Nat → Prop) (w0 : World) (r : ByteArray) : Ending → World → Prop := fun e w => e = .returned (.string r) ∧ Below w0.heap.size w0 w
def image_Digits_13.l0 (K : Nat) (p0 : List Int) : Nat → (List UInt8) → Int → Option (List UInt8)
 | 0, _, _ => none
 | k + 1, t10, t11 => cond (decide (t11 < (p0.length : Int))) (cond (inR t11 p0.length) ((image_hex_28.f K (IntKind.wrap .i64 (rdD p0 t11)) 2).bind fun t23 => cond (bldR t10.length t23.size) (image_Digits_13.l0 K p0 k (t10 ++ t23.data.toList) (IntKind.wrap .i64 (t11 + 1))) none) none) (some t10)
set_option maxRecDepth 100000 in
theorem image_Digits_13.l0_ok (K : Nat) (M0 : Nat → Prop) (w0 : World) (pA0 : Option Addr) (pc0 : Nat) (p0 : List Int) (b7 : Nat) (R : Ending → World → Prop) (x : (List UInt8)) (hk0 : ∀ (t31 : List UInt8) (A29 : Option Addr) (c30 : Nat) (w1 : World), x = t31 → Holds M0 w0 w1 [bl 68 5 b7 (.slice A29 t31.length c30) A29 c30 t31, gl 1 (tab_1.flatMap en_1), gl 4 (tab_4.flatMap en_4), gl 5 (tab_5.flatMap en_5)] → RunsI F13 [.c 21] [(3, .pointer (some ⟨b7, 0, none⟩))] w1 R) :
  ∀ (k : Nat) (t10 : List UInt8) (t11 : Int) (A8 : Option Addr) (c9 : Nat) (w : World), image_Digits_13.l0 K p0 k t10 t11 = some x → Holds M0 w0 w [bl 68 5 b7 (.slice A8 t10.length c9) A8 c9 t10, sl (Rp.int .u8) (.slice pA0 p0.length pc0) p0, gl 1 (tab_1.flatMap en_1), gl 4 (tab_4.flatMap en_4), gl 5 (tab_5.flatMap en_5)] → RunsI F13 [.c 9, .lp 9, .blk 0, .c 21] [(3, .pointer (some ⟨b7, 0, none⟩)), (6, .slice pA0 p0.length pc0), (7, .int .i64 (p0.length : Int)), (8, .int .i64 t11)] w R := by
 intro k
 induction k with
 | zero => intro t10 t11 A8 c9 w h hH; exact absurd h (by simp [image_Digits_13.l0])
 | succ k ih =>
  intro t10 t11 A8 c9 w h hH
  rw [image_Digits_13.l0.eq_2] at h
  refine RunsI.g 1 [.c 10, .c 11, .lp 9, .blk 0, .c 21] ?_
  refine RunsI.r ?_
  refine RegI.p 1 [(3, .pointer (some ⟨b7, 0, none⟩)), (6, .slice pA0 p0.length pc0), (7, .int .i64 (p0.length : Int)), (8, .int .i64 t11), (9, .bool (decide (t11 < (p0.length : Int))))] ?_
  refine RegI.d ?_
  refine RunsI.g 1 [.c 12, .c 15, .lp 9, .blk 0, .c 21] ?_
  rcases of_cond h with ⟨hc12, h⟩ | ⟨hc12, h⟩
  ·skip
   refine RunsI.f 9 true hc12 ?_
   refine RunsI.b true 13 ?_
   refine RunsI.g 1 [.c 15, .lp 9, .blk 0, .c 21] ?_
   refine RunsI.g 3 [.c 18, .c 19, .blk 1, .c 20, .lp 9, .blk 0, .c 21] ?_
   refine RunsI.r ?_
   obtain ⟨hc13, h⟩ := of_cond0 h
   refine RegI.o (OpE.idxSl 10 1 22 t11 hH (by kernel_rfl) rfl (by kernel_rfl) (by kernel_rfl) hc13 ?_)
   intro b14 o15 cs16 hk17 h18
   obtain rfl := hk17
   refine RegI.o (OpE.loadCel 11 5 5 b14 o15 0 (.int .u8 (rdD p0 t11)) h18 (by kernel_rfl) (by kernel_rfl) rfl (by kernel_rfl) ?_)
   refine RegI.p 1 [(3, .pointer (some ⟨b7, 0, none⟩)), (5, .int .u8 (rdD p0 t11)), (6, .slice pA0 p0.length pc0), (7, .int .i64 (p0.length : Int)), (8, .int .i64 t11)] ?_
   refine RegI.d ?_
   refine RunsI.r ?_
   refine RegI.p 2 [(3, .pointer (some ⟨b7, 0, none⟩)), (6, .slice pA0 p0.length pc0), (7, .int .i64 (p0.length : Int)), (8, .int .i64 t11), (13, .int .i64 (IntKind.wrap .i64 (rdD p0 t11)))] ?_
   obtain ⟨t23, hg22, h⟩ := of_bind h
   refine RegI.o (OpE.call 14 (by kernel_rfl) 28 #[.int .i64 (IntKind.wrap .i64 (rdD p0 t11)), .int .i64 2] (by kernel_rfl) ((image_hex_28_ok K _ w  (IntKind.wrap .i64 (rdD p0 t11)) 2 h18.old' (h18.get 2 rfl) (h18.get 3 rfl) (h18.get 4 rfl) hg22).mono ?_))
   rintro _ w19 ⟨rfl, hb20⟩
   refine ⟨_, rfl, ?_⟩
   have h21 := h18.call hb20
   obtain ⟨hc24, h⟩ := of_cond0 h
   refine RegI.o (OpE.call 15 (by kernel_rfl) 27 #[.pointer (some ⟨b7, 0, none⟩), .string t23] (by kernel_rfl) ((strings_Builder_WriteString_27_ok 0 t23 h21 rfl hc24).mono ?_))
   rintro _ w25 ⟨rfl, A26, c27, h28⟩
   refine ⟨_, rfl, ?_⟩
   refine RegI.d ?_
   refine RunsI.g 1 [.c 20, .lp 9, .blk 0, .c 21] ?_
   refine RunsI.r ?_
   refine RegI.p 2 [(3, .pointer (some ⟨b7, 0, none⟩)), (6, .slice pA0 p0.length pc0), (7, .int .i64 (p0.length : Int)), (8, .int .i64 (IntKind.wrap .i64 (t11 + 1)))] ?_
   refine RegI.d ?_
   refine RunsI.g 1 [.c 9, .lp 9, .blk 0, .c 21] ?_
   refine RunsI.l [3, 6, 7, 8] [(3, .pointer (some ⟨b7, 0, none⟩)), (6, .slice pA0 p0.length pc0), (7, .int .i64 (p0.length : Int)), (8, .int .i64 (IntKind.wrap .i64 (t11 + 1)))] ?_
   exact ih (t10 ++ t23.data.toList) (IntKind.wrap .i64 (t11 + 1)) A26 c27 w25 h (h28.pick [0, 1, 2, 3, 4] (by decide))
  ·skip
   refine RunsI.f 9 false hc12 ?_
   refine RunsI.b false 14 ?_
   refine RunsI.g 1 [.c 21] ?_
   refine RunsI.l [3] [(3, .pointer (some ⟨b7, 0, none⟩))] ?_
   exact hk0 t10 A8 c9 w (Option.some.inj h).symm (hH.pick [0, 2, 3, 4] (by decide))
def image_Digits_13.f (K : Nat) (p0 : List Int) : Option ByteArray := (image_Digits_13.l0 K p0 K ([] : List UInt8) 0).bind (fun t36 => some (⟨List.toArray t36⟩ : ByteArray))
set_option maxRecDepth 100000 in
theorem image_Digits_13_ok (K : Nat) (M0 : Nat → Prop) (w0 : World) (pA0 : Option Addr) (pc0 : Nat) (p0 : List Int) (ho : ∀ b, M0 b → b < w0.heap.size) (hs0 : Sl (Rp.int .u8) w0 M0 (.slice pA0 p0.length pc0) p0) (hG1 : (gl 1 (tab_1.flatMap en_1)).ok w0 M0) (hG4 : (gl 4 (tab_4.flatMap en_4)).ok w0 M0) (hG5 : (gl 5 (tab_5.flatMap en_5)).ok w0 M0) {r : ByteArray} (h : image_Digits_13.f K p0 = some r) :
  Calls Tryd.prog 13 #[.slice pA0 p0.length pc0] w0 (image_Digits_13.post M0 w0 r) := by
 unfold image_Digits_13.f at h
 have h0 : Holds M0 w0 w0 [] := Holds.start ho
 have h00 := h0.addSl (Rp.int .u8) (.slice pA0 p0.length pc0) p0 (hs0.mono (fun _ _ hm => hm.elim id (fun hm => absurd hm (by simp [mines, sl]))))
 have h0g1 := h00.add (gl 1 (tab_1.flatMap en_1)) rfl ⟨hG1.1, fun hm => hG1.2.1 (hm.elim id (fun hm => absurd hm (by simp [mines, sl, gl]))), hG1.2.2⟩
 have h0g4 := h0g1.add (gl 4 (tab_4.flatMap en_4)) rfl ⟨hG4.1, fun hm => hG4.2.1 (hm.elim id (fun hm => absurd hm (by simp [mines, sl, gl]))), hG4.2.2⟩
 have h0g5 := h0g4.add (gl 5 (tab_5.flatMap en_5)) rfl ⟨hG5.1, fun hm => hG5.2.1 (hm.elim id (fun hm => absurd hm (by simp [mines, sl, gl]))), hG5.2.2⟩
 have h0 : Holds M0 w0 w0 [sl (Rp.int .u8) (.slice pA0 p0.length pc0) p0, gl 1 (tab_1.flatMap en_1), gl 4 (tab_4.flatMap en_4), gl 5 (tab_5.flatMap en_5)] := h0g5
 refine calls_of F13 rfl [.slice pA0 p0.length pc0] (by kernel_rfl) ?_
 refine RunsI.g 1 [.c 1, .c 2] ?_
 refine RunsI.r ?_
 refine RegI.p 1 [(0, .slice pA0 p0.length pc0)] ?_
 refine RegI.d ?_
 refine RunsI.g 1 [.c 3, .c 4] ?_
 refine RunsI.r ?_
 refine RegI.o (OpE.box 3 68 [.pointer none, .slice none 0 0] h0 (by kernel_rfl) (by kernel_rfl) ?_)
 intro w1 b2 h3 hb5 hn6
 have h4 := h3.boxBl (E := 5) 4 rfl
 refine RegI.d ?_
 refine RunsI.g 2 [.c 6, .c 7, .c 21] ?_
 refine RunsI.r ?_
 refine RegI.p 3 [(3, .pointer (some ⟨b2, 0, none⟩)), (6, .slice pA0 p0.length pc0), (7, .int .i64 (p0.length : Int)), (8, .int .i64 0)] ?_
 refine RegI.d ?_
 refine RunsI.g 2 [.c 9, .lp 9, .blk 0, .c 21] ?_
 obtain ⟨x32, hx33, h⟩ := of_bind h
 refine RunsI.l [3, 6, 7, 8] [(3, .pointer (some ⟨b2, 0, none⟩)), (6, .slice pA0 p0.length pc0), (7, .int .i64 (p0.length : Int)), (8, .int .i64 0)] ?_
 refine image_Digits_13.l0_ok K M0 w0 pA0 pc0 p0 b2 _ x32 ?_ K ([] : List UInt8) 0 none 0 w1 hx33 (h4.pick [4, 0, 1, 2, 3] (by decide))
 ·intro t36 A34 c35 w38 hq42 h37
  (try rw [hq42] at h)
  refine RunsI.g 1 [.c 22, .c 23] ?_
  refine RunsI.r ?_
  refine RegI.o (OpE.call 17 (by kernel_rfl) 29 #[.pointer (some ⟨b2, 0, none⟩)] (by kernel_rfl) ((Tryd.Builder_String_any w0.heap.size b2 t36 w38 (bl_is h37 0 rfl rfl) h37.below.size).mono ?_))
  rintro _ w39 ⟨rfl, hb40⟩
  refine ⟨_, rfl, ?_⟩
  have h41 := h37.only hb40
  refine RegI.p 1 [(2, .string (⟨List.toArray t36⟩ : ByteArray))] ?_
  refine RegI.d ?_
  refine RunsI.t (.string (⟨List.toArray t36⟩ : ByteArray)) ?_
  obtain rfl := Option.some.inj h
  exact ⟨rfl, h41.below⟩
end

/-! ### strings.Join (function 31) -/
section
def strings_Join_31.post (M0 : Nat → Prop) (w0 : World) (r : ByteArray) : Ending → World → Prop := fun e w => e = .returned (.string r) ∧ Below w0.heap.size w0 w
def strings_Join_31.f (K : Nat) (p0 : List ByteArray) (p1 : ByteArray) : Option ByteArray := cond (joinR p0 p1) (some (⟨(Lib.join (p0.map (·.data.toList)) p1.data.toList).toArray⟩ : ByteArray)) none
theorem strings_Join_31_ok (K : Nat) (M0 : Nat → Prop) (w0 : World) (pA0 : Option Addr) (pc0 : Nat) (p0 : List ByteArray) (p1 : ByteArray) (ho : ∀ b, M0 b → b < w0.heap.size) (hs0 : Sl Rp.str w0 M0 (.slice pA0 p0.length pc0) p0) {r : ByteArray} (h : strings_Join_31.f K p0 p1 = some r) : Calls Tryd.prog 31 #[.slice pA0 p0.length pc0, .string p1] w0 (strings_Join_31.post M0 w0 r) := by
 obtain ⟨hc, h⟩ := of_cond0 h
 obtain rfl := Option.some.inj h
 obtain ⟨h1, h2⟩ := joinR_of hc
 by_cases h0 : 0 < p0.length
 ·obtain ⟨b, o, rfl, hb, hcs, hcap⟩ := sl_strs hs0 h0
  refine (Tryd.strings_Join b o pc0 p0 p1 w0 hcs hb h1 hcap h2).mono ?_
  rintro e w' ⟨rfl, hb⟩
  exact ⟨rfl, hb⟩
 ·obtain rfl : p0 = [] := List.eq_nil_of_length_eq_zero (by omega)
  refine (Tryd.strings_Join_none pA0 pc0 p1 w0).mono ?_
  rintro e w' ⟨rfl, rfl⟩
  exact ⟨rfl, Below.refl _ _⟩
end
end Go.Proofs.YtbcepghanbkncaaDoor.Im
