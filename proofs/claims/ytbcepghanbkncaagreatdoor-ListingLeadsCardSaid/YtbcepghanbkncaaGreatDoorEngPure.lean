/- Small facts for the plain laws: places of rows, bounds that hold, numbers that don't wrap. -/
import Derived.Test.YtbcepghanbkncaaGreatDoorEngRow
set_option linter.unusedVariables false
namespace Go.Eng
open Go.RowKit
theorem inR_nat {i n : Nat} (h : i < n) : inR (i : Int) n = true := by simp [inR]; omega
theorem inR_iff {i : Int} {n : Nat} : inR i n = true ↔ 0 ≤ i ∧ i < (n : Int) := by simp [inR]
theorem rdD_nat {α : Type} [Inhabited α] (xs : List α) {i : Nat} (h : i < xs.length) : rdD xs (i : Int) = xs[i] := by simp [rdD, h]
theorem wrap_i64 {x : Int} (h : -9223372036854775808 ≤ x) (h2 : x < 9223372036854775808) : IntKind.wrap .i64 x = x := by rw [IntKind.wrap_i64]; omega
theorem wrap_nat {i : Nat} (h : i < 4611686018427387904) : IntKind.wrap .i64 ((i : Int) + 1) = ((i + 1 : Nat) : Int) := by rw [wrap_i64 (by omega) (by omega)]; omega
theorem mayBe_of {n b : Nat} (h : n ≤ 9223372036854775807) (h2 : n * b ≤ 140737488355328) : mayBe n b = true := by
  simp only [mayBe, Bool.and_eq_true]
  exact ⟨Nat.ble_eq_true_of_le h, Nat.ble_eq_true_of_le h2⟩
theorem makeR_of {x : Int} {b : Nat} (h : 0 ≤ x) (h2 : (b : Int) * x ≤ 281474976710656) (h3 : x ≤ 9223372036854775807) : makeR x b = true := by simp [makeR, h, h2, h3]
theorem cutR_of {lo hi : Int} {n : Nat} (h : 0 ≤ lo) (h2 : lo ≤ hi) (h3 : hi ≤ (n : Int)) : cutR lo hi n = true := by simp [cutR, h, h2, h3]
theorem cond_t {α : Type} (a b : α) : cond true a b = a := rfl
theorem cond_f {α : Type} (a b : α) : cond false a b = b := rfl
theorem cond_of {α : Type} {c : Bool} (h : c = true) (a b : α) : cond c a b = a := by rw [h]; rfl
theorem cond_no {α : Type} {c : Bool} (h : c = false) (a b : α) : cond c a b = b := by rw [h]; rfl
theorem cutL_nat {α : Type} (xs : List α) (i : Nat) : cutL xs 0 (i : Int) = xs.take i := by simp [cutL]
theorem drop_at {α : Type} {xs : List α} {i : Nat} (h : i < xs.length) : xs.drop i = xs[i] :: xs.drop (i + 1) := by simp
end Go.Eng
namespace Go.Eng
open Go.RowKit
end Go.Eng
namespace Go.Eng
open Go.RowKit
end Go.Eng
