/- The engine's texts: plain laws on texts as lists of bytes, and numerals to the bases 10 and 16. -/
import Derived.Test.YtbcepghanbkncaaGreatDoorEngPure
import Derived.Test.YtbcepghanbkncaaGreatDoorEngLib
set_option linter.unusedVariables false
set_option linter.unusedSimpArgs false
namespace Go.Eng
open Go.RowKit
def ba (l : List UInt8) : ByteArray := ⟨l.toArray⟩
theorem ba_app (a b : List UInt8) : ba a ++ ba b = ba (a ++ b) := by
  apply ByteArray.ext
  rw [ByteArray.data_append]
  simp [ba]
theorem ba_size (l : List UInt8) : (ba l).size = l.length := by simp [ba, ByteArray.size]
theorem ba_list (l : List UInt8) : (ba l).data.toList = l := rfl
theorem ba_of (s : ByteArray) : ba s.data.toList = s := by cases s; simp [ba]
theorem ba_cut (l : List UInt8) (lo hi : Int) : strCut (ba l) lo hi = ba ((l.take hi.toNat).drop lo.toNat) := by
  unfold strCut
  apply ByteArray.ext
  rw [ByteArray.data_extract]
  simp [ba, List.drop_take]
theorem strOf_ba (xs : List Int) : strOf xs = ba (xs.map fun n => UInt8.ofNat n.toNat) := by
  have key : ∀ (xs : List Int) (l : List UInt8), xs.foldl (fun r n => r.push (UInt8.ofNat n.toNat)) (ba l) = ba (l ++ xs.map fun n => UInt8.ofNat n.toNat) := by
    intro xs
    induction xs with
    | nil => intro l; simp
    | cons x xs ih =>
      intro l
      rw [List.foldl_cons]
      have : (ba l).push (UInt8.ofNat x.toNat) = ba (l ++ [UInt8.ofNat x.toNat]) := by simp [ba, ByteArray.push]
      rw [this, ih]
      simp
  exact key xs []
theorem cat_of {a b : Nat} (h : a + b ≤ 1000000000000) : mayCat a b = true := by
  simp only [mayCat, decide_eq_true_eq, show IntKind.i64.max = 9223372036854775807 from rfl]
  omega
def dg (d : Nat) : UInt8 := if d < 10 then UInt8.ofNat (48 + d) else UInt8.ofNat (87 + d)
def numL (b : Nat) : Nat → Nat → List UInt8
  | 0, u => [dg u]
  | f + 1, u => if u < b then [dg u] else numL b f (u / b) ++ [dg (u % b)]
def hexL (u : Nat) : List UInt8 := numL 16 16 u
theorem numL_more {b : Nat} (hb : 2 ≤ b) : ∀ (f g u : Nat), u < b ^ (f + 1) → f ≤ g → numL b g u = numL b f u
  | 0, 0, u, h, hg => rfl
  | 0, g + 1, u, h, hg => by
    show (if u < b then [dg u] else _) = [dg u]
    rw [if_pos (by simpa using h)]
  | f + 1, 0, u, h, hg => by omega
  | f + 1, g + 1, u, h, hg => by
    rw [numL, numL]
    split
    · rfl
    · rw [numL_more hb f g (u / b) (Nat.div_lt_of_lt_mul (by rw [Nat.pow_succ, Nat.mul_comm] at h; exact h)) (by omega)]
theorem numL_len (b : Nat) : ∀ (f u : Nat), 1 ≤ (numL b f u).length ∧ (numL b f u).length ≤ f + 1
  | 0, u => by simp [numL]
  | f + 1, u => by
    have := numL_len b f (u / b)
    rw [numL]
    split <;> simp <;> omega
theorem dec_numL : ∀ (f u : Nat), u < 10 ^ (f + 1) → Lib.decDigits u = numL 10 f u
  | 0, u, h => by
    rw [Lib.decDigits, dif_pos (by simpa using h)]
    simp [numL, dg, show u < 10 by simpa using h]
  | f + 1, u, h => by
    rw [Lib.decDigits, numL]
    by_cases hu : u < 10
    · rw [dif_pos hu, if_pos hu]; simp [dg, hu]
    · rw [dif_neg hu, if_neg hu, dec_numL f (u / 10) (Nat.div_lt_of_lt_mul (by rw [Nat.pow_succ, Nat.mul_comm] at h; exact h))]
      simp [dg, Nat.mod_lt u (show 10 > 0 by omega)]
end Go.Eng
