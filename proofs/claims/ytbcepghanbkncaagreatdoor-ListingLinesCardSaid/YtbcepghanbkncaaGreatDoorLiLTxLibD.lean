/- Text: the planes of shifts and bits, the rest of ED, and any instruction's text as a list of bytes. -/
import Derived.Test.YtbcepghanbkncaaGreatDoorLiLTxLibC
set_option linter.unusedVariables false
set_option linter.unusedSimpArgs false
namespace Go.Proofs.YtbcepghanbkncaaGreatDoor.LiL.Tx
open Go.RowKit Go.Eng
def shL : List (List UInt8) := [[114, 108, 99, 32], [114, 114, 99, 32], [114, 108, 32], [114, 114, 32], [115, 108, 97, 32], [115, 114, 97, 32], [115, 108, 108, 32], [115, 114, 108, 32]]
def shR : List (List UInt8) := [[114, 108, 99], [114, 114, 99], [114, 108], [114, 114], [115, 108, 97], [115, 114, 97], [115, 108, 108], [115, 114, 108]]
def askL : List (List UInt8) := [[], [98, 105, 116, 32], [114, 101, 115, 32], [115, 101, 116, 32]]
def whatT (IX : List UInt8) (pl : Int) (x z : Nat) : List UInt8 := if pl = 1 then regL z else if x ≠ 1 ∧ z ≠ 6 then IX ++ ([44] ++ regL z) else IX
def bitT (IX : List UInt8) (pl : Int) (x y z : Nat) : List UInt8 :=
  if x = 0 then shL.getD y [] ++ whatT IX pl x z else askL.getD x [] ++ numL 10 19 y ++ [44] ++ whatT IX pl x z
theorem what_len {IX : List UInt8} (h : IX.length ≤ 50) (pl : Int) (x z : Nat) (hz : z < 8) : (whatT IX pl x z).length ≤ 60 := by
  have := regL_len z hz
  unfold whatT
  split
  · omega
  · split
    · simp only [List.length_append, List.length_cons, List.length_nil]; omega
    · omega
theorem sh_len : ∀ y < 8, (shL.getD y []).length ≤ 4 := by decide
theorem ask_len : ∀ y < 4, (askL.getD y []).length ≤ 4 := by decide
theorem rd_ask (x : Nat) (h : x < 4) : rdD tab_11 (x : Int) = ba (askL.getD x []) := by
  rcases (by omega : x = 0 ∨ x = 1 ∨ x = 2 ∨ x = 3) with rfl | rfl | rfl | rfl <;> rfl
theorem rd_sh (y : Nat) (h : y < 8) : rdD tab_10 (y : Int) = ba (shL.getD y []) := by
  rcases (by omega : y = 0 ∨ y = 1 ∨ y = 2 ∨ y = 3 ∨ y = 4 ∨ y = 5 ∨ y = 6 ∨ y = 7) with rfl | rfl | rfl | rfl | rfl | rfl | rfl | rfl <;> rfl
theorem goItoa8 (y : Nat) (h : y < 8) : strconv_Itoa_153.f 1000 (y : Int) = some (ba (numL 10 19 y)) := by
  rw [goItoa (show i64 y by unfold i64; omega)]
  unfold Lib.itoa
  rw [if_neg (by omega), show (y : Int).toNat = y by omega, dec_numL 19 _ (by omega)]
theorem goBit {pl c d imm a b x y z p q : Int} {IX : List UInt8} (gI : text_Index_152.f 1000 pl d = some (ba IX)) (lI : IX.length ≤ 50) (hx : 0 ≤ x ∧ x < 4) (hy : 0 ≤ y ∧ y < 8) (hz : 0 ≤ z ∧ z < 8) :
    text_shown_bit_99.f 1000 pl c d imm a b x y z p q = some (ba (bitT IX pl x.toNat y.toNat z.toNat)) := by
  obtain ⟨x, rfl⟩ : ∃ k : Nat, x = k := ⟨x.toNat, by omega⟩
  obtain ⟨y, rfl⟩ : ∃ k : Nat, y = k := ⟨y.toNat, by omega⟩
  obtain ⟨z, rfl⟩ : ∃ k : Nat, z = k := ⟨z.toNat, by omega⟩
  have hw := what_len lI pl x z (by omega)
  have hs := sh_len y (by omega); have ha := ask_len x (by omega); have hr := regL_len z (by omega); have hd := (numL_len 10 19 y).2
  rw [Int.toNat_natCast, Int.toNat_natCast, Int.toNat_natCast]
  have key : ∀ W : List UInt8, W = whatT IX pl x z → (cond ((x : Int) == 0) (cond (inR (y : Int) 8) (cond (mayCat (rdD tab_10 (y : Int)).size (ba W).size) (some ((rdD tab_10 (y : Int)) ++ ba W)) none) none) (cond (inR (x : Int) 4) ((strconv_Itoa_153.f 1000 (y : Int)).bind fun t38 => cond (mayCat (rdD tab_11 (x : Int)).size t38.size) (cond (mayCat ((rdD tab_11 (x : Int)) ++ t38).size (⟨#[44]⟩ : ByteArray).size) (cond (mayCat (((rdD tab_11 (x : Int)) ++ t38) ++ (⟨#[44]⟩ : ByteArray)).size (ba W).size) (some ((((rdD tab_11 (x : Int)) ++ t38) ++ (⟨#[44]⟩ : ByteArray)) ++ ba W)) none) none) none) none)) = some (ba (bitT IX pl x y z)) := by
    intro W hW
    rw [rd_sh y (by omega), rd_ask x (by omega), goItoa8 y (by omega), inR_nat (n := 8) (by omega), inR_nat (n := 4) (by omega), Option.bind_some, show (⟨#[44]⟩ : ByteArray) = ba [44] from rfl]
    unfold bitT
    rw [← hW]; rw [← hW] at hw
    simp only [ba_app]
    rw [cat_of (by rw [ba_size, ba_size]; omega), cat_of (by rw [ba_size, ba_size]; omega), cat_of (by rw [ba_size, ba_size, List.length_append, List.length_cons, List.length_nil]; omega),
      cat_of (by rw [ba_size, ba_size, List.length_append, List.length_append, List.length_cons, List.length_nil]; omega)]
    by_cases h : x = 0
    · subst h; rfl
    · rw [if_neg h, show ((x : Int) == 0) = false by simp; omega]; rfl
  unfold text_shown_bit_99.f
  rw [inR_nat (n := 8) (by omega), show rdD tab_6 (z : Int) = ba (regL z) from rdRegs (by omega), gI, show (⟨#[44]⟩ : ByteArray) = ba [44] from rfl]
  simp only [Let, Option.bind_some, ba_app]
  rw [cat_of (by rw [ba_size, ba_size, List.length_cons, List.length_nil]; omega), cat_of (by rw [ba_size, ba_size, List.length_append, List.length_cons, List.length_nil]; omega)]
  by_cases e1 : pl = 1
  · subst e1
    exact key _ rfl
  · rw [show (pl != 1) = true by simpa using e1]
    by_cases ex : x = 1
    · rw [show ((x : Int) != 1) = false by simp; omega]
      exact key _ (by unfold whatT; rw [if_neg e1, if_neg (by omega)])
    · rw [show ((x : Int) != 1) = true by simp; omega]
      by_cases ez : z = 6
      · rw [show ((z : Int) != 6) = false by simp; omega]
        exact key _ (by unfold whatT; rw [if_neg e1, if_neg (by omega)])
      · rw [show ((z : Int) != 6) = true by simp; omega]
        exact key _ (by unfold whatT; rw [if_neg e1, if_pos (by omega)])
theorem rd_shR (y : Nat) (h : y < 8) : charabancref09_shifts_107.f 1000 = some (shR.map ba) ∧ inR (y : Int) (shR.map ba).length = true ∧ rdD (shR.map ba) (y : Int) = ba (shR.getD y []) := by
  refine ⟨rfl, inR_nat (n := 8) h, ?_⟩
  rcases (by omega : y = 0 ∨ y = 1 ∨ y = 2 ∨ y = 3 ∨ y = 4 ∨ y = 5 ∨ y = 6 ∨ y = 7) with rfl | rfl | rfl | rfl | rfl | rfl | rfl | rfl <;> rfl
theorem shR_sp : ∀ y < 8, shR.getD y [] ++ [32] = shL.getD y [] ∧ (shR.getD y []).length ≤ 3 := by decide
theorem refBit {pl c d imm a b x y z : Int} {IX : List UInt8} (gI : charabancref09_Index_106.f 1000 pl d = some (ba IX)) (lI : IX.length ≤ 50) (gR : ∀ k : Nat, k < 8 → charabancref09_reg_71.f 1000 0 0 0 0 0 0 (k : Int) = some (ba (regL k))) (hx : 0 ≤ x ∧ x < 4) (hy : 0 ≤ y ∧ y < 8) (hz : 0 ≤ z ∧ z < 8) :
    charabancref09_bits_68.f 1000 pl c d imm a b x y z = some (ba (bitT IX pl x.toNat y.toNat z.toNat)) := by
  obtain ⟨x, rfl⟩ : ∃ k : Nat, x = k := ⟨x.toNat, by omega⟩
  obtain ⟨y, rfl⟩ : ∃ k : Nat, y = k := ⟨y.toNat, by omega⟩
  obtain ⟨z, rfl⟩ : ∃ k : Nat, z = k := ⟨z.toNat, by omega⟩
  have hw := what_len lI pl x z (by omega)
  have hs := (shR_sp y (by omega)).2; have he := (shR_sp y (by omega)).1; have ha := ask_len x (by omega); have hr := regL_len z (by omega); have hd := (numL_len 10 19 y).2
  obtain ⟨s1, s2, s3⟩ := rd_shR y (by omega)
  rw [Int.toNat_natCast, Int.toNat_natCast, Int.toNat_natCast]
  have hA : ([(⟨#[]⟩ : ByteArray), (⟨#[98, 105, 116, 32]⟩ : ByteArray), (⟨#[114, 101, 115, 32]⟩ : ByteArray), (⟨#[115, 101, 116, 32]⟩ : ByteArray)] : List ByteArray) = tab_11 := rfl
  have key : ∀ W : List UInt8, W = whatT IX pl x z → (cond ((x : Int) == 0) ((charabancref09_shifts_107.f 1000).bind fun t43 => cond (inR (y : Int) t43.length) (cond (mayCat (rdD t43 (y : Int)).size (⟨#[32]⟩ : ByteArray).size) (cond (mayCat ((rdD t43 (y : Int)) ++ (⟨#[32]⟩ : ByteArray)).size (ba W).size) (some (((rdD t43 (y : Int)) ++ (⟨#[32]⟩ : ByteArray)) ++ ba W)) none) none) none) ((charabancref09_digits_74.f 1000 (y : Int) 10 1).bind fun t58 => cond (inR (x : Int) tab_11.length) (cond (mayCat (rdD tab_11 (x : Int)).size t58.size) (cond (mayCat ((rdD tab_11 (x : Int)) ++ t58).size (⟨#[44]⟩ : ByteArray).size) (cond (mayCat (((rdD tab_11 (x : Int)) ++ t58) ++ (⟨#[44]⟩ : ByteArray)).size (ba W).size) (some ((((rdD tab_11 (x : Int)) ++ t58) ++ (⟨#[44]⟩ : ByteArray)) ++ ba W)) none) none) none) none)) = some (ba (bitT IX pl x y z)) := by
    intro W hW
    rw [s1, Option.bind_some, s2, s3, rd_ask x (by omega), dig10 (by omega), show inR (x : Int) tab_11.length = true from inR_nat (n := 4) (by omega), Option.bind_some, show (⟨#[44]⟩ : ByteArray) = ba [44] from rfl, show (⟨#[32]⟩ : ByteArray) = ba [32] from rfl]
    unfold bitT
    rw [← hW]; rw [← hW] at hw
    simp only [ba_app]
    rw [cat_of (by rw [ba_size, ba_size, List.length_cons, List.length_nil]; omega), cat_of (by rw [ba_size, ba_size, List.length_append, List.length_cons, List.length_nil]; omega), cat_of (by rw [ba_size, ba_size]; omega), cat_of (by rw [ba_size, ba_size, List.length_append, List.length_cons, List.length_nil]; omega),
      cat_of (by rw [ba_size, ba_size, List.length_append, List.length_append, List.length_cons, List.length_nil]; omega), he]
    by_cases h : x = 0
    · subst h; rfl
    · rw [if_neg h, show ((x : Int) == 0) = false by simp; omega]; rfl
  unfold charabancref09_bits_68.f
  rw [hA, gR z (by omega), Option.bind_some, gI, show (⟨#[44]⟩ : ByteArray) = ba [44] from rfl]
  simp only [Let, Option.bind_some, ba_app]
  rw [cat_of (by rw [ba_size, ba_size, List.length_cons, List.length_nil]; omega), cat_of (by rw [ba_size, ba_size, List.length_append, List.length_cons, List.length_nil]; omega)]
  by_cases e1 : pl = 1
  · subst e1
    exact key _ rfl
  · rw [show (pl != 1) = true by simpa using e1]
    by_cases ex : x = 1
    · rw [show ((x : Int) != 1) = false by simp; omega]
      exact key _ (by unfold whatT; rw [if_neg e1, if_neg (by omega)])
    · rw [show ((x : Int) != 1) = true by simp; omega]
      by_cases ez : z = 6
      · rw [show ((z : Int) != 6) = false by simp; omega]
        exact key _ (by unfold whatT; rw [if_neg e1, if_neg (by omega)])
      · rw [show ((z : Int) != 6) = true by simp; omega]
        exact key _ (by unfold whatT; rw [if_neg e1, if_pos (by omega), List.append_assoc])
theorem goNop {x : Int} (h : x = 0 ∨ x = 3) (pl c d imm a b y z p q : Int) : text_shown_far_98.f 1000 pl c d imm a b x y z p q = some (ba [110, 111, 112, 42]) := by
  unfold text_shown_far_98.f
  rcases h with rfl | rfl <;> rfl
theorem refNop {x : Int} (h : x = 0 ∨ x = 3) (pl c d imm a b y z p q : Int) : charabancref09_ed_69.f 1000 pl c d imm a b x y z p q = some (ba [110, 111, 112, 42]) := by
  unfold charabancref09_ed_69.f
  rcases h with rfl | rfl <;> rfl
theorem goFields {c : Int} (h1 : 0 ≤ c) (h2 : c < 256) : decode_Fields_24.f 1000 c = some (c / 64, c / 8 % 8, c % 8, c / 8 % 8 / 2, c / 8 % 8 % 2) := by
  have k := codes (fun c => decode_Fields_24.f 1000 c == some (c / 64, c / 8 % 8, c % 8, c / 8 % 8 / 2, c / 8 % 8 % 2)) (by kernel_rfl) h1 h2
  simpa using k
theorem refFields {c : Int} (h1 : 0 ≤ c) (h2 : c < 256) : charabancref08_Fields_27.f 1000 c = some (c / 64, c / 8 % 8, c % 8, c / 8 % 8 / 2, c / 8 % 8 % 2) := by
  have k := codes (fun c => charabancref08_Fields_27.f 1000 c == some (c / 64, c / 8 % 8, c % 8, c / 8 % 8 / 2, c / 8 % 8 % 2)) (by kernel_rfl) h1 h2
  simpa using k
end Go.Proofs.YtbcepghanbkncaaGreatDoor.LiL.Tx
