/- Numbers in digits, bytes in digits: the program's and the reference's are the same. -/
import Derived.Test.YtbcepghanbkncaaDoorImLibD
set_option linter.unusedVariables false
set_option linter.unusedSimpArgs false
namespace Go.Proofs.YtbcepghanbkncaaDoor.Im
open Go.RowKit Go.Eng
/-- A number in so many digits. -/
def hxL : Nat → Nat → List UInt8
  | 0, _ => []
  | m + 1, u => hxL m (u / 16) ++ [dg (u % 16)]
theorem hxL_len : ∀ (m u : Nat), (hxL m u).length = m
  | 0, _ => rfl
  | m + 1, u => by rw [hxL, List.length_append, hxL_len m]; rfl
theorem d16 {d : Nat} (h : d < 16) : strCut D16 (d : Int) ((d : Int) + 1) = ba [dg d] := by
  rw [show D16 = ba [48, 49, 50, 51, 52, 53, 54, 55, 56, 57, 97, 98, 99, 100, 101, 102] from rfl, ba_cut]
  congr 1
  have : ∀ d : Fin 16, List.drop (Int.toNat (d.val : Int)) (List.take (Int.toNat ((d.val : Int) + 1)) [48, 49, 50, 51, 52, 53, 54, 55, 56, 57, 97, 98, 99, 100, 101, 102]) = [dg d.val] := by decide
  exact this ⟨d, h⟩
theorem refHex0 {p0 : Int} {many : Nat} (hm : many ≤ 5) : ∀ (k m u : Nat) (s : List UInt8), m + s.length = many → m < k → u < 9223372036854775808 →
    charabancref30_hex_32.l0 2000 p0 (many : Int) k (u : Int) (ba s) (s.length : Int) = some (ba (hxL m u ++ s))
  | 0, m, u, s, _, hk, _ => by omega
  | k + 1, 0, u, s, hs, hk, hu => by
    rw [charabancref30_hex_32.l0.eq_2, decide_eq_false (by omega), cond_f]
    rfl
  | k + 1, m + 1, u, s, hs, hk, hu => by
    have h1 : Int.tmod (u : Int) 16 = ((u % 16 : Nat) : Int) := by rw [Int.tmod_eq_emod_of_nonneg (by omega)]; omega
    have h2 : Int.tdiv (u : Int) 16 = ((u / 16 : Nat) : Int) := by rw [Int.tdiv_eq_ediv_of_nonneg (by omega)]; omega
    rw [charabancref30_hex_32.l0.eq_2, decide_eq_true (by omega), cond_t, h1, h2, wrap_i64 (x := ((u % 16 : Nat) : Int) + 1) (by omega) (by omega), cutR_of (by omega) (by omega) (by show _ ≤ ((16 : Nat) : Int); omega), cond_t, d16 (show u % 16 < 16 by omega), ba_size, ba_size, cat_of (by simp; omega), cond_t, ba_app, wrap_i64 (x := ((u / 16 : Nat) : Int)) (by omega) (by omega), wrap_nat (by omega)]
    have ih := refHex0 (p0 := p0) hm k m (u / 16) ([dg (u % 16)] ++ s) (by simp; omega) (by omega) (by omega)
    rw [show (([dg (u % 16)] ++ s).length : Int) = ((s.length + 1 : Nat) : Int) by simp] at ih
    rw [ih, hxL, List.append_assoc]
theorem refHex {u many : Nat} (hm : many ≤ 5) (hu : u < 9223372036854775808) : charabancref30_hex_32.f 2000 (u : Int) (many : Int) = some (ba (hxL many u)) := by
  unfold charabancref30_hex_32.f
  have := refHex0 (p0 := (u : Int)) hm 2000 many u [] (by simp) (by omega) hu
  rw [show (([] : List UInt8).length : Int) = 0 from rfl] at this
  rw [show (⟨#[]⟩ : ByteArray) = ba [] from rfl, this, List.append_nil]
  rfl
/-- The numeral, padded, is so many digits. -/
theorem num_hx : ∀ (f u m : Nat), u < 16 ^ (f + 1) → u < 16 ^ m → 0 < m → List.replicate (m - (numL 16 f u).length) 48 ++ numL 16 f u = hxL m u
  | f, u, 0, _, _, h => by omega
  | 0, u, m + 1, hf, hm, _ => by
    have hz : ∀ m, hxL m 0 = List.replicate m 48 := by
      intro m
      induction m with
      | zero => rfl
      | succ m ih => rw [hxL, Nat.zero_div, ih, List.replicate_succ']; rfl
    have hu : u < 16 := by simpa using hf
    rw [numL, hxL, show u / 16 = 0 by omega, hz, show u % 16 = u by omega]
    rfl
  | f + 1, u, m + 1, hf, hm, _ => by
    have hz : ∀ m, hxL m 0 = List.replicate m 48 := by
      intro m
      induction m with
      | zero => rfl
      | succ m ih => rw [hxL, Nat.zero_div, ih, List.replicate_succ']; rfl
    rw [numL]
    by_cases hu : u < 16
    · rw [if_pos hu, hxL, show u / 16 = 0 by omega, hz, show u % 16 = u by omega]
      rfl
    · have hm0 : 0 < m := by
        rcases m with _ | m
        · simp at hm; omega
        · omega
      have hd : u / 16 < 16 ^ m := Nat.div_lt_of_lt_mul (by rw [Nat.pow_succ, Nat.mul_comm] at hm; exact hm)
      have ih := num_hx f (u / 16) m (Nat.div_lt_of_lt_mul (by rw [Nat.pow_succ, Nat.mul_comm] at hf; exact hf)) hd hm0
      rw [if_neg hu, hxL, ← ih, List.length_append, List.length_singleton, show m + 1 - ((numL 16 f (u / 16)).length + 1) = m - (numL 16 f (u / 16)).length by omega, List.append_assoc]
abbrev D36 : ByteArray := ⟨#[48, 49, 50, 51, 52, 53, 54, 55, 56, 57, 97, 98, 99, 100, 101, 102, 103, 104, 105, 106, 107, 108, 109, 110, 111, 112, 113, 114, 115, 116, 117, 118, 119, 120, 121, 122]⟩
def dgI (d : Nat) : Int := ((dg d).toNat : Int)
theorem d36 {d : Nat} (h : d < 16) : btD D36 (d : Int) = dgI d := by
  have : ∀ d : Fin 16, btD D36 (d.val : Int) = dgI d.val := by decide
  exact this ⟨d, h⟩
theorem band15 {u : Nat} (h : u < 18446744073709551616) : band .u64 (u : Int) 15 = ((u % 16 : Nat) : Int) := by
  have h1 : (BitVec.ofInt 64 (u : Int) &&& BitVec.ofInt 64 15).toNat = u % 16 := by
    rw [BitVec.toNat_and, BitVec.ofInt_natCast, BitVec.toNat_ofNat, Nat.mod_eq_of_lt h]
    exact Nat.and_two_pow_sub_one_eq_mod u 4
  have : band .u64 (u : Int) 15 = IntKind.wrap .u64 (((BitVec.ofInt 64 (u : Int) &&& BitVec.ofInt 64 15).toNat : Nat) : Int) := rfl
  rw [this, h1, IntKind.wrap_u64]
  omega
theorem drop_set (a : List Int) (i : Nat) (x : Int) (h : i < a.length) : (a.set i x).drop i = x :: a.drop (i + 1) := by
  rw [List.drop_eq_getElem_cons (by simpa using h), List.getElem_set_self, List.drop_set_of_lt (by omega)]
theorem hex_step (p0 p1 t : Int) (a : List Int) (i : Int) (k : Nat) : image_hex_28.l0 2000 p0 p1 (k + 1) t a i = cond (decide (t ≥ 16)) (cond (inR (band .u64 t 15) 36) (cond (inR (IntKind.wrap .i64 (i - 1)) 65) (cond (inR (IntKind.wrap .i64 (i - 1)) a.length)
    (image_hex_28.l0 2000 p0 p1 k (Int.fdiv t (2 ^ 4)) (stD a (IntKind.wrap .i64 (i - 1)) (btD D36 (band .u64 t 15))) (IntKind.wrap .i64 (i - 1))) none) none) none) (some (t, a, i)) := rfl
theorem fmt_l (p0 p1 : Int) : ∀ (m k u : Nat) (a : List Int) (i : Nat), u < 16 ^ (m + 1) → u < 18446744073709551616 → m < k → a.length = 65 → m + 2 ≤ i → i ≤ 65 →
    ∃ (u' : Nat) (a' : List Int) (i' : Nat), image_hex_28.l0 2000 p0 p1 k (u : Int) a (i : Int) = some ((u' : Int), a', (i' : Int)) ∧ u' < 16 ∧ a'.length = 65 ∧ 2 ≤ i' ∧ i' ≤ 65 ∧ dgI u' :: a'.drop i' = (numL 16 m u).map (fun d => (d.toNat : Int)) ++ a.drop i
  | m, 0, u, a, i, h1, h2, h3, h4, h5, h6 => by omega
  | m, k + 1, u, a, i, h1, h2, h3, h4, h5, h6 => by
    rw [hex_step]
    by_cases hu : u < 16
    · rw [decide_eq_false (by omega), cond_f]
      refine ⟨u, a, i, rfl, hu, h4, by omega, h6, ?_⟩
      cases m with
      | zero => rfl
      | succ m => rw [numL, if_pos hu]; rfl
    · cases m with
      | zero => exact absurd (by simpa using h1) hu
      | succ m =>
        have e1 : Int.fdiv (u : Int) (2 ^ 4) = ((u / 16 : Nat) : Int) := by rw [Int.fdiv_eq_ediv_of_nonneg _ (by decide)]; omega
        rw [decide_eq_true (by omega), cond_t, band15 h2, e1, wrap_i64 (x := (i : Int) - 1) (by omega) (by omega), show (i : Int) - 1 = ((i - 1 : Nat) : Int) by omega, d36 (show u % 16 < 16 by omega)]
        rw [cond_of (inR_nat (show u % 16 < 36 by omega)), cond_of (inR_nat (show i - 1 < 65 by omega)), cond_of (inR_nat (show i - 1 < a.length by omega))]
        obtain ⟨u', a', i', g1, g2, g3, g4, g5, g6⟩ := fmt_l p0 p1 m k (u / 16) (a.set (i - 1) (dgI (u % 16))) (i - 1) (Nat.div_lt_of_lt_mul (by rw [Nat.pow_succ, Nat.mul_comm] at h1; exact h1)) (by omega) (by omega) (by simpa using h4) (by omega) (by omega)
        refine ⟨u', a', i', g1, g2, g3, g4, g5, ?_⟩
        rw [g6, drop_set _ _ _ (by omega), show i - 1 + 1 = i by omega, numL, if_neg hu]
        simp [dgI]
theorem strOf_map (l : List UInt8) : strOf (l.map fun d => (d.toNat : Int)) = ba l := by
  rw [strOf_ba, List.map_map]
  congr 1
  rw [show l = l.map id by simp]
  rw [List.map_map]
  refine List.map_congr_left fun x hx => ?_
  simp
theorem rep_one (c : Nat) : Lib.repeatL [48] c = List.replicate c 48 := by
  have := Lib.repeatL_replicate 48 1 c
  simpa using this
theorem goHex {u many : Nat} (hm0 : 0 < many) (hm : many ≤ 5) (hu : u < 16 ^ many) : image_hex_28.f 2000 (u : Int) (many : Int) = some (ba (hxL many u)) := by
  have hb : (16 ^ many : Nat) ≤ 16 ^ 5 := Nat.pow_le_pow_right (by omega) (by omega)
  have hb : (16 ^ many : Nat) ≤ 1048576 := hb
  have hlen := numL_len 16 15 u
  have hhx := num_hx 15 u many (by omega) hu hm0
  obtain ⟨u', a', i', g1, g2, g3, g4, g5, g6⟩ := fmt_l (u : Int) (many : Int) 15 2000 u (List.replicate 65 0) 65 (by omega) (by omega) (by omega) (by simp) (by omega) (by omega)
  have hdrop : (List.replicate 65 (0 : Int)).drop 65 = [] := by simp
  rw [hdrop, List.append_nil] at g6
  have hw : IntKind.wrap .u64 (u : Int) = (u : Int) := by rw [IntKind.wrap_u64]; omega
  have ei : IntKind.wrap .i64 ((i' : Int) - 1) = ((i' - 1 : Nat) : Int) := by rw [wrap_i64 (by omega) (by omega)]; omega
  have hcut : strOf (cutL (stD a' ((i' - 1 : Nat) : Int) (dgI u')) ((i' - 1 : Nat) : Int) 65) = ba (numL 16 15 u) := by
    rw [← strOf_map, ← g6]
    congr 1
    unfold cutL stD
    rw [Int.toNat_natCast, List.take_of_length_le (by simp; omega), drop_set _ _ _ (by omega), show i' - 1 + 1 = i' by omega]
  unfold image_hex_28.f
  simp only [Let]
  rw [decide_eq_false (show ¬ (u : Int) < 0 by omega), cond_f, hw]
  rw [show ((65 : Nat) : Int) = 65 from rfl] at g1
  rw [g1, Option.bind_some]
  dsimp only
  rw [inR_nat (n := D36.size) (show u' < 36 by omega), cond_t, ei, inR_nat (show i' - 1 < 65 by omega), cond_t, inR_nat (show i' - 1 < a'.length by omega), cond_t, cond_f, d36 g2]
  rw [cutR_of (by omega) (by omega) (by omega), cond_t, show Nat.beq (stD a' ((i' - 1 : Nat) : Int) (dgI u')).length 65 = true from by rw [stD_length, g3]; rfl, cond_t, hcut, ba_size, wrap_i64 (x := (many : Int) - ((numL 16 15 u).length : Int)) (by omega) (by omega)]
  have hif : (if (many : Int) - ((numL 16 15 u).length : Int) > 0 then (many : Int) - ((numL 16 15 u).length : Int) else 0) = ((many - (numL 16 15 u).length : Nat) : Int) := by split <;> omega
  have hrep : strings_Repeat_53.f 2000 (⟨#[48]⟩ : ByteArray) ((many - (numL 16 15 u).length : Nat) : Int) = some (ba (List.replicate (many - (numL 16 15 u).length) 48)) := by
    unfold strings_Repeat_53.f
    rw [cond_of (by unfold repR; rw [decide_eq_true (by omega)]; simp only [Bool.true_and, Bool.and_eq_true]; exact ⟨Nat.ble_eq_true_of_le (by omega), Nat.ble_eq_true_of_le (by show 1 * _ ≤ _; omega)⟩)]
    rw [show (⟨#[48]⟩ : ByteArray).data.toList = [48] from rfl, rep_one, Int.toNat_natCast]
    rfl
  rw [hif, hrep, Option.bind_some, ba_size, cat_of (by simp; omega), cond_t, ba_app, hhx]
/-! ### bytes in digits -/
def two (x : Int) : List UInt8 := hxL 2 x.toNat
def hexes (b : List Int) : List UInt8 := b.flatMap two
theorem hexes_len : ∀ b : List Int, (hexes b).length = 2 * b.length
  | [] => rfl
  | x :: b => by
    have := hexes_len b
    unfold hexes two at *
    rw [List.flatMap_cons, List.length_append, this, hxL_len, List.length_cons]; omega
theorem fold_hex : ∀ (l : List Int) (s : List UInt8), l.foldl (fun s x => s ++ two x) s = s ++ hexes l
  | [], s => by simp [hexes]
  | x :: l, s => by rw [List.foldl_cons, fold_hex l]; simp [hexes]
theorem goDigits {b : List Int} (hb : ∀ x ∈ b, byt x) (hl : b.length ≤ 1900) : image_Digits_13.f 2000 b = some (ba (hexes b)) := by
  unfold image_Digits_13.f
  have e : image_Digits_13.l0 2000 b 2000 ([] : List UInt8) 0 = some (b.foldl (fun s x => s ++ two x) []) := by
    refine loop0 (fun k s i => image_Digits_13.l0 2000 b k s i) b (fun s x => s ++ two x) some (fun i s => s.length = 2 * i) ?_ ?_ (by omega) rfl
    · intro k s _
      show image_Digits_13.l0 2000 b (k + 1) s (b.length : Int) = _
      rw [image_Digits_13.l0.eq_2, decide_eq_false (by omega), cond_f]
    · intro k s j hj hI
      have hx := hb _ (List.getElem_mem hj)
      unfold byt at hx
      refine ⟨?_, by rw [List.length_append, hI]; unfold two; rw [hxL_len]; omega⟩
      show image_Digits_13.l0 2000 b (k + 1) s (j : Int) = _
      have h2 := goHex (u := (b[j]).toNat) (many := 2) (by omega) (by omega) (by show _ < 256; omega)
      rw [Int.toNat_of_nonneg hx.1] at h2
      rw [image_Digits_13.l0.eq_2, decide_eq_true (by omega), cond_t, inR_nat hj, cond_t, rdD_nat b hj, wrap_i64 (x := b[j]) (by omega) (by omega), show (2 : Int) = ((2 : Nat) : Int) from rfl, h2, Option.bind_some, show bldR s.length (ba (hxL 2 (b[j]).toNat)).size = true from Nat.ble_eq_true_of_le (by rw [ba_size, hxL_len]; omega), cond_t, wrap_nat (by omega)]
      rfl
  rw [e, Option.bind_some, fold_hex]
  rfl
theorem refDigits {b : List Int} (hb : ∀ x ∈ b, byt x) (hl : b.length ≤ 1900) : charabancref30_Digits_14.f 2000 b = some (ba (hexes b)) := by
  unfold charabancref30_Digits_14.f
  have e : charabancref30_Digits_14.l0 2000 b 2000 (⟨#[]⟩ : ByteArray) 0 = some (b.foldl (fun s x => s ++ ba (two x)) (ba [])) := by
    refine loop0 (fun k s i => charabancref30_Digits_14.l0 2000 b k s i) b (fun s x => s ++ ba (two x)) some (fun i s => s.size = 2 * i) ?_ ?_ (by omega) rfl
    · intro k s _
      show charabancref30_Digits_14.l0 2000 b (k + 1) s (b.length : Int) = _
      rw [charabancref30_Digits_14.l0.eq_2, decide_eq_false (by omega), cond_f]
    · intro k s j hj hI
      have hx := hb _ (List.getElem_mem hj)
      have hlt : j < 2000 := by omega
      refine ⟨?_, by rw [ByteArray.size_append, hI, ba_size]; unfold two; rw [hxL_len]; omega⟩
      show charabancref30_Digits_14.l0 2000 b (k + 1) s (j : Int) = _
      rw [charabancref30_Digits_14.l0.eq_2, decide_eq_true (by omega), cond_t, inR_nat hj, cond_t, rdD_nat b hj, wrap_nat (by omega)]
      generalize b[j] = x at hx
      unfold byt at hx
      obtain ⟨u, rfl⟩ : ∃ u : Nat, x = (u : Int) := ⟨x.toNat, by omega⟩
      have h1 : Int.tmod (u : Int) 16 = ((u % 16 : Nat) : Int) := by rw [Int.tmod_eq_emod_of_nonneg (by omega)]; omega
      have h2 : IntKind.wrap .u8 (Int.tdiv (u : Int) 16) = ((u / 16 : Nat) : Int) := by rw [Int.tdiv_eq_ediv_of_nonneg (by omega), IntKind.wrap_u8]; omega
      have h3 : IntKind.wrap .u8 (((u / 16 : Nat) : Int) + 1) = ((u / 16 : Nat) : Int) + 1 := by rw [IntKind.wrap_u8]; omega
      have h4 : IntKind.wrap .u8 (((u % 16 : Nat) : Int) + 1) = ((u % 16 : Nat) : Int) + 1 := by rw [IntKind.wrap_u8]; omega
      rw [h1, h2, h3, h4, d16 (show u / 16 < 16 by omega), d16 (show u % 16 < 16 by omega), cutR_of (by omega) (by omega) (by show _ ≤ ((16 : Nat) : Int); omega), cond_t, cat_of (by rw [hI, ba_size]; simp; omega), cond_t, cutR_of (by omega) (by omega) (by show _ ≤ ((16 : Nat) : Int); omega), cond_t, cat_of (by rw [ByteArray.size_append, hI, ba_size, ba_size]; simp; omega), cond_t, ByteArray.append_assoc, ba_app]
      have : two (u : Int) = [dg (u / 16)] ++ [dg (u % 16)] := by
        unfold two
        rw [Int.toNat_natCast, hxL, hxL, hxL, show u / 16 % 16 = u / 16 by omega]
        rfl
      rw [this]
  have f : ∀ (l : List Int) (s : List UInt8), l.foldl (fun s x => s ++ ba (two x)) (ba s) = ba (s ++ hexes l) := by
    intro l
    induction l with
    | nil => intro s; simp [hexes]
    | cons x l ih => intro s; rw [List.foldl_cons, ba_app, ih]; simp [hexes]
  rw [e, Option.bind_some, f]
  rfl
/-- Digits are their bytes again. -/
theorem dg_v : ∀ d : Fin 16, vI (((dg d.val).toNat : Nat) : Int) = (d.val : Int) := by decide
theorem vI_dg {d : Nat} (h : d < 16) : vI (((dg d).toNat : Nat) : Int) = (d : Int) := dg_v ⟨d, h⟩
theorem two_iL {x : Int} (hx : byt x) : ∃ a b : Nat, a < 16 ∧ b < 16 ∧ x = 16 * (a : Int) + b ∧ two x = [dg a, dg b] := by
  unfold byt at hx
  refine ⟨x.toNat / 16, x.toNat % 16, by omega, by omega, by omega, ?_⟩
  unfold two
  rw [hxL, hxL, hxL, show x.toNat / 16 % 16 = x.toNat / 16 by omega]
  rfl
theorem prs_hexes : ∀ b : List Int, (∀ x ∈ b, byt x) → prsB (iL (hexes b)) = some b
  | [], _ => rfl
  | x :: b, h => by
    obtain ⟨a, c, ha, hc, e, e2⟩ := two_iL (h x List.mem_cons_self)
    have ih := prs_hexes b (fun y hy => h y (List.mem_cons_of_mem _ hy))
    unfold hexes iL at *
    rw [List.flatMap_cons, e2, List.map_append]
    show prsB (((dg a).toNat : Int) :: ((dg c).toNat : Int) :: List.map (fun b => (b.toNat : Int)) (List.flatMap two b)) = _
    rw [prsB, vI_dg ha, vI_dg hc, if_neg (by omega), ih, e]
    rfl
end Go.Proofs.YtbcepghanbkncaaDoor.Im
