/- Numerals: text.Hex and the reference's, digits to the base 10. -/
import Derived.Test.YtbcepghanbkncaaGreatDoorLiL8
import Derived.Test.YtbcepghanbkncaaGreatDoorEngText
set_option linter.unusedVariables false
set_option linter.unusedSimpArgs false
namespace Go.Proofs.YtbcepghanbkncaaGreatDoor.LiL.Tx
open Go.RowKit Go.Eng
def least (d : Int) : Int := if d < 0 then 0 else if d > 8 then 8 else d
theorem least_in (d : Int) : 0 ≤ least d ∧ least d ≤ 8 := by unfold least; split <;> (try split) <;> omega
def i64 (n : Int) : Prop := -9223372036854775808 ≤ n ∧ n ≤ 9223372036854775807
theorem d16 {d : Nat} (h : d < 16) : strCut (⟨#[48, 49, 50, 51, 52, 53, 54, 55, 56, 57, 97, 98, 99, 100, 101, 102]⟩ : ByteArray) (d : Int) ((d : Int) + 1) = ba [dg d] := by
  rw [show (⟨#[48, 49, 50, 51, 52, 53, 54, 55, 56, 57, 97, 98, 99, 100, 101, 102]⟩ : ByteArray) = ba [48, 49, 50, 51, 52, 53, 54, 55, 56, 57, 97, 98, 99, 100, 101, 102] from rfl, ba_cut]
  congr 1
  have : ∀ d : Fin 16, List.drop (Int.toNat (d.val : Int)) (List.take (Int.toNat ((d.val : Int) + 1)) [48, 49, 50, 51, 52, 53, 54, 55, 56, 57, 97, 98, 99, 100, 101, 102]) = [dg d.val] := by decide
  exact this ⟨d, h⟩
theorem digs_step (p0 L : Int) (k : Nat) (u : Nat) (s : List UInt8) (hu : u < 18446744073709551616) (hs : s.length ≤ 1000) (hgo : 0 < u ∨ (s.length : Int) < L ∨ s = []) :
    charabancref09_digits_74.l0 1000 p0 16 L (k + 1) (u : Int) (ba s) = charabancref09_digits_74.l0 1000 p0 16 L k ((u / 16 : Nat) : Int) (ba (dg (u % 16) :: s)) := by
  rw [charabancref09_digits_74.l0]
  simp only [Let]
  have h1 : Int.tmod (u : Int) 16 = ((u % 16 : Nat) : Int) := by rw [Int.tmod_eq_emod_of_nonneg (by omega)]; omega
  have h2 : Int.tdiv (u : Int) 16 = ((u / 16 : Nat) : Int) := by rw [Int.tdiv_eq_ediv_of_nonneg (by omega)]; omega
  have hj : ∀ X Y : Option ByteArray, cond (decide ((u : Int) > 0)) (cond true X Y) (cond (decide (((ba s).size : Int) < L)) (cond true X Y) (cond ((ByteArray.toList (ba s)) == (ByteArray.toList (⟨#[]⟩ : ByteArray))) X Y)) = X := by
    intro X Y
    rw [ba_size]
    rcases hgo with h | h | h
    · rw [decide_eq_true (by omega)]; rfl
    · rw [decide_eq_true h]; cases decide ((u : Int) > 0) <;> rfl
    · subst h
      rw [show ((ByteArray.toList (ba [])) == (ByteArray.toList (⟨#[]⟩ : ByteArray))) = true from by rw [show ba [] = (⟨#[]⟩ : ByteArray) from rfl]; simp]
      cases decide ((u : Int) > 0) <;> cases decide ((([] : List UInt8).length : Int) < L) <;> rfl
  rw [hj, h1, h2, wrap_i64 (x := ((u % 16 : Nat) : Int) + 1) (by omega) (by omega), d16 (show u % 16 < 16 by omega), ba_size, ba_app]
  rw [cond_of (by rfl), cond_of (cutR_of (by omega) (by omega) (by show _ ≤ ((16 : Nat) : Int); omega)), cond_of (cat_of (by rw [ba_size]; simp; omega))]
  by_cases hb : u / 16 < 9223372036854775808
  · rw [wrap_i64 (by omega) (by omega)]; rfl
  · omega
theorem digs_pad (p0 L : Int) (hL : L ≤ 8) : ∀ (m k : Nat) (s : List UInt8), s ≠ [] → (L - s.length).toNat = m → m < k → s.length ≤ 500 →
    charabancref09_digits_74.l0 1000 p0 16 L k 0 (ba s) = some (ba (List.replicate (L - s.length).toNat 48 ++ s))
  | m, 0, s, h1, h2, h3, h4 => by omega
  | 0, k + 1, s, h1, h2, h3, h4 => by
    rw [charabancref09_digits_74.l0]
    simp only [Let]
    rw [ba_size, decide_eq_false (show ¬ (0 : Int) > 0 by omega), decide_eq_false (show ¬ (s.length : Int) < L by omega), cond_f, cond_f]
    have : ((ByteArray.toList (ba s)) == (ByteArray.toList (⟨#[]⟩ : ByteArray))) = false := by
      rw [ByteArray.toList_eq, ByteArray.toList_eq, ba_list]
      simpa using h1
    rw [this, cond_f, h2]
    rfl
  | m + 1, k + 1, s, h1, h2, h3, h4 => by
    have h6 : charabancref09_digits_74.l0 1000 p0 16 L (k + 1) 0 (ba s) = charabancref09_digits_74.l0 1000 p0 16 L k 0 (ba (dg 0 :: s)) := digs_step p0 L k 0 s (by omega) (by omega) (.inr (.inl (by omega)))
    rw [h6]
    have h5 := digs_pad p0 L hL m k (dg 0 :: s) (by simp) (by simp; omega) (by omega) (by simp; omega)
    rw [h5, h2, show (L - (dg 0 :: s).length).toNat = m by simp; omega, List.replicate_succ', List.append_assoc]
    rfl
theorem digs_all (p0 L : Int) (hL : L ≤ 8) : ∀ (m k u : Nat) (s : List UInt8), 0 < u ∨ s = [] → u < 16 ^ (m + 1) → u < 18446744073709551616 → m + 12 < k → m + s.length ≤ 100 →
    charabancref09_digits_74.l0 1000 p0 16 L k (u : Int) (ba s) = some (ba (List.replicate (L - (numL 16 m u ++ s).length).toNat 48 ++ (numL 16 m u ++ s)))
  | m, 0, u, s, h1, h2, hu, h3, h4 => by omega
  | 0, k + 1, u, s, h1, h2, hu, h3, h4 => by
    rw [digs_step p0 L k u s hu (by omega) (by rcases h1 with h | h; exact .inl h; exact .inr (.inr h))]
    have hu : u < 16 := by simpa using h2
    rw [show u / 16 = 0 by omega, show u % 16 = u by omega]
    exact digs_pad p0 L hL _ k (dg u :: s) (by simp) rfl (by simp; omega) (by simp; omega)
  | m + 1, k + 1, u, s, h1, h2, hu, h3, h4 => by
    rw [digs_step p0 L k u s hu (by omega) (by rcases h1 with h | h; exact .inl h; exact .inr (.inr h)), numL]
    by_cases h16 : u < 16
    · rw [if_pos h16, show u / 16 = 0 by omega, show u % 16 = u by omega]
      exact digs_pad p0 L hL _ k (dg u :: s) (by simp) rfl (by simp; omega) (by simp; omega)
    · rw [if_neg h16, digs_all p0 L hL m k (u / 16) (dg (u % 16) :: s) (.inl (by omega)) (Nat.div_lt_of_lt_mul (by rw [Nat.pow_succ, Nat.mul_comm] at h2; exact h2)) (by omega) (by omega) (by simp; omega)]
      simp only [List.append_assoc, List.singleton_append]
def hexT (n d : Int) : List UInt8 := (if n < 0 then [45] else []) ++ (List.replicate (least d - (hexL n.natAbs).length).toNat 48 ++ hexL n.natAbs) ++ [104]
theorem hexT_len (n d : Int) : (hexT n d).length ≤ 40 := by
  have h1 := numL_len 16 16 n.natAbs
  have h2 := least_in d
  unfold hexT hexL
  split <;> simp <;> omega
theorem refHex {n d : Int} (hn : i64 n) : charabancref09_Hex_43.f 1000 n d = some (ba (hexT n d)) := by
  obtain ⟨hn1, hn2⟩ := hn
  have hL : (if 8 < (if 0 > d then 0 else d) then 8 else (if 0 > d then 0 else d)) = least d := by unfold least; split <;> split <;> (try split) <;> (try split) <;> omega
  have hl := least_in d
  have key : ∀ u : Nat, u < 18446744073709551616 → charabancref09_digits_74.f 1000 (u : Int) 16 (least d) = some (ba (List.replicate (least d - (hexL u).length).toNat 48 ++ hexL u)) := by
    intro u hu
    unfold charabancref09_digits_74.f
    have h := digs_all (u : Int) (least d) hl.2 16 1000 u [] (.inr rfl) (by omega) hu (by omega) (by simp)
    erw [h]
    simp only [List.append_nil]
    rfl
  have hlen : ∀ u : Nat, (List.replicate (least d - (hexL u).length).toNat (48 : UInt8) ++ hexL u).length ≤ 30 := by
    intro u
    have h1 := numL_len 16 16 u
    unfold hexL
    simp; omega
  unfold charabancref09_Hex_43.f hexT
  rw [hL]
  by_cases h0 : n < 0
  · rw [decide_eq_false (by omega), cond_f, if_pos h0]
    by_cases hm : n = -9223372036854775808
    · subst hm
      have e1 : ((-9223372036854775808 : Int) == IntKind.wrap .i64 (0 - -9223372036854775808)) = true := by decide
      have e2 : hexL (Int.natAbs (-9223372036854775808)) = [56, 48, 48, 48, 48, 48, 48, 48, 48, 48, 48, 48, 48, 48, 48, 48] := by kernel_rfl
      rw [e1, cond_t, e2, show (least d - (([56, 48, 48, 48, 48, 48, 48, 48, 48, 48, 48, 48, 48, 48, 48, 48] : List UInt8).length : Int)).toNat = 0 by simp; omega]
      rfl
    · rw [wrap_i64 (by omega) (by omega), show (n == 0 - n) = false by simp; omega, cond_f, show 0 - n = ((n.natAbs : Nat) : Int) by omega, key _ (by omega), Option.bind_some]
      have := hlen n.natAbs
      rw [show (⟨#[45]⟩ : ByteArray) = ba [45] from rfl, show (⟨#[104]⟩ : ByteArray) = ba [104] from rfl, ba_app, ba_app, cond_of (cat_of (by rw [ba_size, ba_size]; simp only [List.length_cons, List.length_nil]; omega)), cond_of (cat_of (by rw [ba_size, ba_size]; simp only [List.length_append, List.length_cons, List.length_nil] at this ⊢; omega))]
  · rw [decide_eq_true (by omega), cond_t, if_neg h0]
    have := hlen n.natAbs
    rw [show charabancref09_digits_74.f 1000 n 16 (least d) = charabancref09_digits_74.f 1000 ((n.natAbs : Nat) : Int) 16 (least d) by rw [show ((n.natAbs : Nat) : Int) = n by omega], key _ (by omega), Option.bind_some]
    rw [show (⟨#[104]⟩ : ByteArray) = ba [104] from rfl, ba_app, cond_of (cat_of (by rw [ba_size, ba_size]; simp only [List.length_cons, List.length_nil]; omega))]
    simp
theorem goItoa {n : Int} (hn : i64 n) : strconv_Itoa_153.f 1000 n = some (ba (Lib.itoa n)) := by
  obtain ⟨hn1, hn2⟩ := hn
  unfold strconv_Itoa_153.f
  rw [cond_of (by unfold in64; rw [decide_eq_true hn1, decide_eq_true hn2]; rfl)]
  rfl
abbrev D36 : ByteArray := ⟨#[48, 49, 50, 51, 52, 53, 54, 55, 56, 57, 97, 98, 99, 100, 101, 102, 103, 104, 105, 106, 107, 108, 109, 110, 111, 112, 113, 114, 115, 116, 117, 118, 119, 120, 121, 122]⟩
def dgI (d : Nat) : Int := ((dg d).toNat : Int)
theorem d36 {d : Nat} (h : d < 16) : btD D36 (d : Int) = dgI d := by
  have : ∀ d : Fin 16, btD D36 (d.val : Int) = dgI d.val := by decide
  exact this ⟨d, h⟩
theorem band15 {u : Nat} (h : u < 18446744073709551616) : band .u64 (u : Int) 15 = ((u % 16 : Nat) : Int) := by
  have h1 : (BitVec.ofInt 64 (u : Int) &&& BitVec.ofInt 64 15).toNat = u % 16 := by
    rw [BitVec.toNat_and, BitVec.ofInt_natCast, BitVec.toNat_ofNat, Nat.mod_eq_of_lt h]
    exact Nat.and_two_pow_sub_one_eq_mod u 4
  have : band .u64 (u : Int) 15 = IntKind.wrap .u64 (((BitVec.ofInt 64 (u : Int) &&& BitVec.ofInt 64 15).toNat : Nat) : Int) := rfl
  rw [this, h1, IntKind.wrap_u64]
  omega
theorem drop_set (a : List Int) (i : Nat) (x : Int) (h : i < a.length) : (a.set i x).drop i = x :: a.drop (i + 1) := by
  rw [List.drop_eq_getElem_cons (by simpa using h), List.getElem_set_self, List.drop_set_of_lt (by omega)]
theorem hex_step (p0 p1 t : Int) (a : List Int) (i : Int) (k : Nat) : text_Hex_37.l0 1000 p0 p1 (k + 1) t a i = cond (decide (t ≥ 16)) (cond (inR (band .u64 t 15) 36) (cond (inR (IntKind.wrap .i64 (i - 1)) 65) (cond (inR (IntKind.wrap .i64 (i - 1)) a.length)
    (text_Hex_37.l0 1000 p0 p1 k (Int.fdiv t (2 ^ 4)) (stD a (IntKind.wrap .i64 (i - 1)) (btD D36 (band .u64 t 15))) (IntKind.wrap .i64 (i - 1))) none) none) none) (some (t, a, i)) := rfl
def hexG (n d : Int) (t7 : Int) : Option ByteArray := (text_Hex_37.l0 1000 n d 1000 t7 (List.replicate 65 0) 65).bind (fun yx27 => cond (inR yx27.1 36) (cond (inR (IntKind.wrap .i64 (yx27.2.2 - 1)) 65) (cond (inR (IntKind.wrap .i64 (yx27.2.2 - 1)) yx27.2.1.length) (Let (fun (yj50 : (List Int) × Int) => cond (cutR yj50.2 65 65) (cond (Nat.beq yj50.1.length 65) ((strings_CutPrefix_61.f 1000 (strOf (cutL yj50.1 yj50.2 65)) (⟨#[45]⟩ : ByteArray)).bind fun yt59 => Let (fun (t68 : ByteArray) => cond yt59.2 (cond (mayCat (⟨#[45]⟩ : ByteArray).size t68.size) (cond (mayCat ((⟨#[45]⟩ : ByteArray) ++ t68).size (⟨#[104]⟩ : ByteArray).size) (some (((⟨#[45]⟩ : ByteArray) ++ t68) ++ (⟨#[104]⟩ : ByteArray))) none) none) (cond (mayCat t68.size (⟨#[104]⟩ : ByteArray).size) (some (t68 ++ (⟨#[104]⟩ : ByteArray))) none)) (fun j71 => cond (decide ((IntKind.wrap .i64 ((if (if 8 < d then 8 else d) > 0 then (if 8 < d then 8 else d) else 0) - (yt59.1.size : Int))) > 0)) ((strings_Repeat_36.f 1000 (⟨#[48]⟩ : ByteArray) (IntKind.wrap .i64 ((if (if 8 < d then 8 else d) > 0 then (if 8 < d then 8 else d) else 0) - (yt59.1.size : Int)))).bind fun t66 => cond (mayCat t66.size yt59.1.size) (j71 (t66 ++ yt59.1)) none) (j71 yt59.1))) none) none) (fun j50 => cond (decide (n < 0)) (cond (inR (IntKind.wrap .i64 ((IntKind.wrap .i64 (yx27.2.2 - 1)) - 1)) 65) (cond (inR (IntKind.wrap .i64 ((IntKind.wrap .i64 (yx27.2.2 - 1)) - 1)) (stD yx27.2.1 (IntKind.wrap .i64 (yx27.2.2 - 1)) (btD D36 yx27.1)).length) (j50 ((stD (stD yx27.2.1 (IntKind.wrap .i64 (yx27.2.2 - 1)) (btD D36 yx27.1)) (IntKind.wrap .i64 ((IntKind.wrap .i64 (yx27.2.2 - 1)) - 1)) 45), (IntKind.wrap .i64 ((IntKind.wrap .i64 (yx27.2.2 - 1)) - 1)))) none) none) (j50 ((stD yx27.2.1 (IntKind.wrap .i64 (yx27.2.2 - 1)) (btD D36 yx27.1)), (IntKind.wrap .i64 (yx27.2.2 - 1)))))) none) none) none)
theorem hexF (n d : Int) : text_Hex_37.f 1000 n d = cond (decide (n < 0)) (hexG n d (IntKind.wrap .u64 (0 - (IntKind.wrap .u64 n)))) (hexG n d (IntKind.wrap .u64 n)) := rfl
theorem fmt_l (p0 p1 : Int) : ∀ (m k u : Nat) (a : List Int) (i : Nat), u < 16 ^ (m + 1) → u < 18446744073709551616 → m < k → a.length = 65 → m + 2 ≤ i → i ≤ 65 →
    ∃ (u' : Nat) (a' : List Int) (i' : Nat), text_Hex_37.l0 1000 p0 p1 k (u : Int) a (i : Int) = some ((u' : Int), a', (i' : Int)) ∧ u' < 16 ∧ a'.length = 65 ∧ 2 ≤ i' ∧ i' ≤ 65 ∧ dgI u' :: a'.drop i' = (numL 16 m u).map (fun d => (d.toNat : Int)) ++ a.drop i
  | m, 0, u, a, i, h1, h2, h3, h4, h5, h6 => by omega
  | m, k + 1, u, a, i, h1, h2, h3, h4, h5, h6 => by
    rw [hex_step]
    by_cases hu : u < 16
    · rw [decide_eq_false (by omega), cond_f]
      refine ⟨u, a, i, rfl, hu, h4, by omega, h6, ?_⟩
      cases m with
      | zero => rfl
      | succ m => rw [numL, if_pos hu]; rfl
    · cases m with
      | zero => exact absurd (by simpa using h1) hu
      | succ m =>
        have e1 : Int.fdiv (u : Int) (2 ^ 4) = ((u / 16 : Nat) : Int) := by rw [Int.fdiv_eq_ediv_of_nonneg _ (by decide)]; omega
        rw [decide_eq_true (by omega), cond_t, band15 h2, e1, wrap_i64 (x := (i : Int) - 1) (by omega) (by omega), show (i : Int) - 1 = ((i - 1 : Nat) : Int) by omega, d36 (show u % 16 < 16 by omega)]
        rw [cond_of (inR_nat (show u % 16 < 36 by omega)), cond_of (inR_nat (show i - 1 < 65 by omega)), cond_of (inR_nat (show i - 1 < a.length by omega))]
        obtain ⟨u', a', i', g1, g2, g3, g4, g5, g6⟩ := fmt_l p0 p1 m k (u / 16) (a.set (i - 1) (dgI (u % 16))) (i - 1) (Nat.div_lt_of_lt_mul (by rw [Nat.pow_succ, Nat.mul_comm] at h1; exact h1)) (by omega) (by omega) (by simpa using h4) (by omega) (by omega)
        refine ⟨u', a', i', g1, g2, g3, g4, g5, ?_⟩
        rw [g6, drop_set _ _ _ (by omega), show i - 1 + 1 = i by omega, numL, if_neg hu]
        simp [dgI]
theorem strOf_map (l : List UInt8) : strOf (l.map fun d => (d.toNat : Int)) = ba l := by
  rw [strOf_ba, List.map_map]
  congr 1
  rw [show l = l.map id by simp]
  rw [List.map_map]
  refine List.map_congr_left fun x hx => ?_
  simp
theorem dg_ne {d : Nat} (h : d < 16) : dg d ≠ 45 := by
  have : ∀ d : Fin 16, dg d.val ≠ 45 := by decide
  exact this ⟨d, h⟩
theorem numL_head : ∀ (f u : Nat), u < 16 ^ (f + 1) → ∃ d l, d < 16 ∧ numL 16 f u = dg d :: l
  | 0, u, h => ⟨u, [], by simpa using h, rfl⟩
  | f + 1, u, h => by
    rw [numL]
    split
    · rename_i h16; exact ⟨u, [], h16, rfl⟩
    · obtain ⟨d, l, h1, h2⟩ := numL_head f (u / 16) (Nat.div_lt_of_lt_mul (by rw [Nat.pow_succ, Nat.mul_comm] at h; exact h))
      exact ⟨d, l ++ [dg (u % 16)], h1, by rw [h2]; rfl⟩
theorem rep_one (c : Nat) : Lib.repeatL [48] c = List.replicate c 48 := by
  have := Lib.repeatL_replicate 48 1 c
  simpa using this
theorem hex_tail {d : Int} (neg : Bool) (u : Nat) (hu : u < 18446744073709551616) : ((strings_CutPrefix_61.f 1000 (ba ((if neg = true then [45] else []) ++ hexL u)) (⟨#[45]⟩ : ByteArray)).bind fun yt59 => Let (fun (t68 : ByteArray) => cond yt59.2 (cond (mayCat (⟨#[45]⟩ : ByteArray).size t68.size) (cond (mayCat ((⟨#[45]⟩ : ByteArray) ++ t68).size (⟨#[104]⟩ : ByteArray).size) (some (((⟨#[45]⟩ : ByteArray) ++ t68) ++ (⟨#[104]⟩ : ByteArray))) none) none) (cond (mayCat t68.size (⟨#[104]⟩ : ByteArray).size) (some (t68 ++ (⟨#[104]⟩ : ByteArray))) none)) (fun j71 => cond (decide ((IntKind.wrap .i64 ((if (if 8 < d then 8 else d) > 0 then (if 8 < d then 8 else d) else 0) - (yt59.1.size : Int))) > 0)) ((strings_Repeat_36.f 1000 (⟨#[48]⟩ : ByteArray) (IntKind.wrap .i64 ((if (if 8 < d then 8 else d) > 0 then (if 8 < d then 8 else d) else 0) - (yt59.1.size : Int)))).bind fun t66 => cond (mayCat t66.size yt59.1.size) (j71 (t66 ++ yt59.1)) none) (j71 yt59.1)))
    = some (ba ((if neg = true then [45] else []) ++ (List.replicate (least d - (hexL u).length).toNat 48 ++ hexL u) ++ [104])) := by
  obtain ⟨d0, l0, hd0, hl0⟩ := numL_head 16 u (by omega)
  have hlen := numL_len 16 16 u
  have hll := least_in d
  have hL : (if (if 8 < d then 8 else d) > 0 then (if 8 < d then 8 else d) else 0) = least d := by unfold least; split <;> split <;> (try split) <;> (try split) <;> omega
  have hcut : strings_CutPrefix_61.f 1000 (ba ((if neg = true then [45] else []) ++ hexL u)) (⟨#[45]⟩ : ByteArray) = some (ba (hexL u), neg) := by
    unfold strings_CutPrefix_61.f
    rw [ba_list]
    unfold hexL
    cases neg with
    | true => rw [hl0]; simp [Lib.trimPrefix, Lib.hasPrefix, ba]
    | false =>
      have hne := dg_ne hd0
      have hne2 : (45 == dg d0) = false := by simpa using fun h => hne h.symm
      have hp : Lib.hasPrefix (dg d0 :: l0) [45] = false := by simp [Lib.hasPrefix, List.isPrefixOf, hne2]
      rw [hl0]
      simp only [Bool.false_eq_true, if_false, List.nil_append, Lib.trimPrefix]
      rw [hp]
      simp [ba]
  have hend : ∀ z : List UInt8, z.length ≤ 40 → cond neg (cond (mayCat (⟨#[45]⟩ : ByteArray).size (ba z).size) (cond (mayCat ((⟨#[45]⟩ : ByteArray) ++ ba z).size (⟨#[104]⟩ : ByteArray).size) (some (((⟨#[45]⟩ : ByteArray) ++ ba z) ++ (⟨#[104]⟩ : ByteArray))) none) none) (cond (mayCat (ba z).size (⟨#[104]⟩ : ByteArray).size) (some (ba z ++ (⟨#[104]⟩ : ByteArray))) none) = some (ba ((if neg = true then [45] else []) ++ z ++ [104])) := by
    intro z hz
    rw [show (⟨#[45]⟩ : ByteArray) = ba [45] from rfl, show (⟨#[104]⟩ : ByteArray) = ba [104] from rfl, ba_app, ba_app, ba_app]
    simp only [ba_size]
    rw [cond_of (cat_of (by simp; omega)), cond_of (cat_of (by simp; omega)), cond_of (cat_of (by simp; omega))]
    cases neg <;> rfl
  rw [hcut]
  simp only [Option.bind_some, Let, hL, ba_size]
  have hln : (hexL u).length ≤ 17 := hlen.2
  rw [wrap_i64 (x := least d - ((hexL u).length : Int)) (by omega) (by omega)]
  by_cases hpad : least d - ((hexL u).length : Int) > 0
  · rw [decide_eq_true hpad, cond_t]
    have hrep : strings_Repeat_36.f 1000 (⟨#[48]⟩ : ByteArray) (least d - ((hexL u).length : Int)) = some (ba (List.replicate (least d - ((hexL u).length : Int)).toNat 48)) := by
      unfold strings_Repeat_36.f
      rw [cond_of (by unfold repR; rw [decide_eq_true (by omega)]; simp only [Bool.true_and, Bool.and_eq_true]; exact ⟨Nat.ble_eq_true_of_le (by omega), Nat.ble_eq_true_of_le (by show 1 * _ ≤ _; omega)⟩)]
      rw [show (⟨#[48]⟩ : ByteArray).data.toList = [48] from rfl, rep_one]
      rfl
    rw [hrep, Option.bind_some, ba_size, cond_of (cat_of (by simp; omega)), ba_app]
    exact hend _ (by simp; omega)
  · rw [decide_eq_false hpad, cond_f, show (least d - ((hexL u).length : Int)).toNat = 0 by omega, List.replicate_zero, List.nil_append]
    exact hend (hexL u) (by omega)
theorem goHex {n d : Int} (hn : i64 n) : text_Hex_37.f 1000 n d = some (ba (hexT n d)) := by
  obtain ⟨hn1, hn2⟩ := hn
  have hu : n.natAbs < 18446744073709551616 := by omega
  have hw : (if n < 0 then IntKind.wrap .u64 (0 - IntKind.wrap .u64 n) else IntKind.wrap .u64 n) = (n.natAbs : Int) := by
    simp only [IntKind.wrap_u64]
    split <;> omega
  obtain ⟨u', a', i', g1, g2, g3, g4, g5, g6⟩ := fmt_l n d 15 1000 n.natAbs (List.replicate 65 0) 65 (by omega) hu (by omega) (by simp) (by omega) (by omega)
  have hdrop : (List.replicate 65 (0 : Int)).drop 65 = [] := by simp
  rw [hdrop, List.append_nil, ← numL_more (b := 16) (by omega) 15 16 n.natAbs (by omega) (by omega)] at g6
  have hj : text_Hex_37.f 1000 n d = hexG n d (n.natAbs : Int) := by
    rw [hexF, ← hw]
    by_cases h : n < 0
    · rw [decide_eq_true h, if_pos h]; rfl
    · rw [decide_eq_false h, if_neg h]; rfl
  rw [hj]
  unfold hexG
  erw [g1]
  have ei : IntKind.wrap .i64 ((i' : Int) - 1) = ((i' - 1 : Nat) : Int) := by rw [wrap_i64 (by omega) (by omega)]; omega
  have ei2 : IntKind.wrap .i64 (((i' - 1 : Nat) : Int) - 1) = ((i' - 2 : Nat) : Int) := by rw [wrap_i64 (by omega) (by omega)]; omega
  have hdg : btD D36 (u' : Int) = dgI u' := d36 g2
  simp only [Option.bind_some, ei, ei2, hdg, Let]
  rw [cond_of (inR_nat (show u' < 36 by omega)), cond_of (inR_nat (show i' - 1 < 65 by omega)), cond_of (inR_nat (show i' - 1 < a'.length by omega))]
  have fin_ : ∀ (neg : Bool) (a2 : List Int) (i2 : Nat), a2.length = 65 → i2 ≤ 65 → a2.drop i2 = ((if neg = true then [45] else []) ++ hexL n.natAbs).map (fun (x : UInt8) => (x.toNat : Int)) → neg = decide (n < 0) →
      strOf (cutL a2 (i2 : Int) 65) = ba ((if neg = true then [45] else []) ++ hexL n.natAbs) := by
    intro neg a2 i2 h1 h2 h3 h4
    rw [← strOf_map, ← h3]
    congr 1
    unfold cutL
    rw [List.take_of_length_le (by omega)]
    rfl
  by_cases h0 : n < 0
  · rw [decide_eq_true h0, cond_t, cond_of (inR_nat (show i' - 2 < 65 by omega)), cond_of (inR_nat (by rw [stD_length]; omega))]
    have hlen2 : (stD (stD a' ((i' - 1 : Nat) : Int) (dgI u')) ((i' - 2 : Nat) : Int) 45).length = 65 := by rw [stD_length, stD_length]; exact g3
    rw [cond_of (cutR_of (by omega) (by omega) (by omega)), cond_of (by rw [hlen2]; rfl)]
    rw [fin_ true _ (i' - 2) hlen2 (by omega) (by
      have : stD (stD a' ((i' - 1 : Nat) : Int) (dgI u')) ((i' - 2 : Nat) : Int) 45 = (a'.set (i' - 1) (dgI u')).set (i' - 2) 45 := rfl
      rw [this, drop_set _ _ _ (by simp; omega), show i' - 2 + 1 = i' - 1 by omega, drop_set _ _ _ (by omega), show i' - 1 + 1 = i' by omega, g6]
      rfl) (by simp [h0])]
    unfold hexT
    rw [if_pos h0]
    exact hex_tail (d := d) true n.natAbs hu
  · rw [decide_eq_false h0, cond_f]
    have hlen2 : (stD a' ((i' - 1 : Nat) : Int) (dgI u')).length = 65 := by rw [stD_length]; exact g3
    rw [cond_of (cutR_of (by omega) (by omega) (by omega)), cond_of (by rw [hlen2]; rfl)]
    rw [fin_ false _ (i' - 1) hlen2 (by omega) (by
      have : stD a' ((i' - 1 : Nat) : Int) (dgI u') = a'.set (i' - 1) (dgI u') := rfl
      rw [this, drop_set _ _ _ (by omega), show i' - 1 + 1 = i' by omega, g6]
      rfl) (by simp [h0])]
    unfold hexT
    rw [if_neg h0]
    exact hex_tail (d := d) false n.natAbs hu
end Go.Proofs.YtbcepghanbkncaaGreatDoor.LiL.Tx
