/- The sort at uint16: what is sorted already, the pivot. -/
import Derived.Test.YtbcepghanbkncaaGreatDoorLiTSrLibB
set_option linter.unusedVariables false
set_option linter.unusedSimpArgs false
namespace Go.Proofs.YtbcepghanbkncaaGreatDoor.LiT.Sr
open Go.RowKit Go.Eng
theorem scan_sorted {K : Nat} {xs : List Int} {b : Nat} {p1 : Int} (hl : xs.length ≤ 200) (hb : b ≤ xs.length) : ∀ (m i k : Nat), b - i = m → m < k → 1 ≤ i → i ≤ 300 → slices_partialInsertionSortOrdered_uint16_130.l0 K xs p1 (b : Int) k (i : Int) = some ((Go.Sort.scanSorted lti xs.toArray b i : Nat) : Int)
  | m, i, 0, _, hk, _, _ => by omega
  | m, i, k + 1, hm, hk, hi, hi2 => by
    rw [slices_partialInsertionSortOrdered_uint16_130.l0.eq_2, Go.Sort.scanSorted]
    simp only [Let]
    by_cases h : i < b
    · rw [decide_eq_true (show (i : Int) < (b : Int) by omega), cond_t, inR_nat (show i < xs.length by omega), cond_t, wrap_i64 (x := (i : Int) - 1) (by omega) (by omega), show (i : Int) - 1 = ((i - 1 : Nat) : Int) by omega, inR_nat (show i - 1 < xs.length by omega), cond_t, less, Option.bind_some, decide_eq_true h, Bool.true_and, rd_arr, rd_arr]
      cases hp : lti (rdD xs (i : Int)) (rdD xs ((i - 1 : Nat) : Int)) with
      | false =>
        rw [Bool.not_false, cond_t, if_pos rfl, wrap_i64 (by omega) (by omega)]
        exact scan_sorted hl hb (m - 1) (i + 1) k (by omega) (by omega) (by omega) (by omega)
      | true => rw [Bool.not_true, cond_f, if_neg (by simp)]
    · rw [decide_eq_false (show ¬ (i : Int) < (b : Int) by omega), cond_f, cond_f, decide_eq_false h, Bool.false_and, if_neg (by simp)]
theorem partialIns {K : Nat} (hK : 1000 ≤ K) {xs : List Int} {a b : Nat} (hl : xs.length ≤ 49) (hb : b ≤ xs.length) (hab : a < b) : ∃ f : Bool, slices_partialInsertionSortOrdered_uint16_130.f K xs (a : Int) (b : Int) = some (xs, f) ∧ Go.Sort.partialInsertionSort lti xs.toArray a b = (xs.toArray, f) := by
  obtain ⟨K, rfl⟩ : ∃ q, K = q + 1 := ⟨K - 1, by omega⟩
  unfold slices_partialInsertionSortOrdered_uint16_130.f Go.Sort.partialInsertionSort
  rw [slices_partialInsertionSortOrdered_uint16_130.l1.eq_2, wrap_i64 (x := (a : Int) + 1) (by omega) (by omega), show (a : Int) + 1 = ((a + 1 : Nat) : Int) by omega, scan_sorted (by omega) hb _ (a + 1) (K + 1) rfl (by omega) (by omega) (by omega), Option.bind_some, Go.Sort.partialIns]
  dsimp only
  by_cases h : Go.Sort.scanSorted lti xs.toArray b (a + 1) = b
  · rw [h, beq_self_eq_true, cond_t, if_pos rfl]; exact ⟨true, rfl, rfl⟩
  · rw [show (((Go.Sort.scanSorted lti xs.toArray b (a + 1) : Nat) : Int) == (b : Int)) = false by simp; omega, cond_f, wrap_i64 (x := (b : Int) - (a : Int)) (by omega) (by omega), decide_eq_true (by omega), cond_t, if_neg h, if_pos (by omega)]
    exact ⟨false, rfl, rfl⟩
theorem pivot {K : Nat} {xs : List Int} {a b : Nat} (hl : xs.length ≤ 49) (hb : b ≤ xs.length) (hab : a + 8 ≤ b) : ∃ (q : Nat) (h : Int), slices_choosePivotOrdered_uint16_128.f K xs (a : Int) (b : Int) = some ((q : Int), h) ∧ a ≤ q ∧ q < b ∧ (h == 2) = false := by
  unfold slices_choosePivotOrdered_uint16_128.f
  simp only [Let]
  have e0 : Int.tdiv ((b : Int) - (a : Int)) 4 = (((b - a) / 4 : Nat) : Int) := by rw [Int.tdiv_eq_ediv_of_nonneg (by omega)]; omega
  obtain ⟨l, hl4⟩ : ∃ l, l = (b - a) / 4 := ⟨_, rfl⟩
  rw [wrap_i64 (x := (b : Int) - (a : Int)) (by omega) (by omega), e0, ← hl4, wrap_i64 (x := (l : Int)) (by omega) (by omega), wrap_i64 (x := (l : Int) * 1) (by omega) (by omega), wrap_i64 (x := (l : Int) * 2) (by omega) (by omega), wrap_i64 (x := (l : Int) * 3) (by omega) (by omega),
    wrap_i64 (x := (a : Int) + (l : Int) * 1) (by omega) (by omega), wrap_i64 (x := (a : Int) + (l : Int) * 2) (by omega) (by omega), wrap_i64 (x := (a : Int) + (l : Int) * 3) (by omega) (by omega),
    show (a : Int) + (l : Int) * 1 = ((a + l : Nat) : Int) by omega, show (a : Int) + (l : Int) * 2 = ((a + l * 2 : Nat) : Int) by omega, show (a : Int) + (l : Int) * 3 = ((a + l * 3 : Nat) : Int) by omega,
    decide_eq_true (show (b : Int) - (a : Int) ≥ 8 by omega), cond_t, decide_eq_false (show ¬ (b : Int) - (a : Int) ≥ 50 by omega), cond_f]
  simp only [less, Option.bind_some, inR_nat (show a + l < xs.length by omega), inR_nat (show a + l * 2 < xs.length by omega), inR_nat (show a + l * 3 < xs.length by omega), cond_t]
  have w1 : IntKind.wrap .i64 ((0 : Int) + 1) = 1 := by rw [wrap_i64 (by omega) (by omega)]; rfl
  have w2 : IntKind.wrap .i64 ((1 : Int) + 1) = 2 := by rw [wrap_i64 (by omega) (by omega)]; rfl
  have w3 : IntKind.wrap .i64 ((2 : Int) + 1) = 3 := by rw [wrap_i64 (by omega) (by omega)]; rfl
  cases lti (rdD xs ((a + l * 2 : Nat) : Int)) (rdD xs ((a + l : Nat) : Int)) <;> simp only [cond_t, cond_f, w1, inR_nat (show a + l < xs.length by omega), inR_nat (show a + l * 2 < xs.length by omega), inR_nat (show a + l * 3 < xs.length by omega), less, Option.bind_some]
  · cases lti (rdD xs ((a + l * 3 : Nat) : Int)) (rdD xs ((a + l * 2 : Nat) : Int)) <;> simp only [cond_t, cond_f, w1, w2, inR_nat (show a + l < xs.length by omega), inR_nat (show a + l * 2 < xs.length by omega), inR_nat (show a + l * 3 < xs.length by omega), less, Option.bind_some]
    · exact ⟨a + l * 2, 1, rfl, by omega, by omega, rfl⟩
    · cases lti (rdD xs ((a + l * 3 : Nat) : Int)) (rdD xs ((a + l : Nat) : Int))
      · exact ⟨a + l * 3, 0, rfl, by omega, by omega, rfl⟩
      · exact ⟨a + l, 0, rfl, by omega, by omega, rfl⟩
  · simp only [w2, w3]
    cases lti (rdD xs ((a + l * 3 : Nat) : Int)) (rdD xs ((a + l : Nat) : Int))
    · cases lti (rdD xs ((a + l : Nat) : Int)) (rdD xs ((a + l * 2 : Nat) : Int))
      · exact ⟨a + l, 0, rfl, by omega, by omega, rfl⟩
      · exact ⟨a + l * 2, 0, rfl, by omega, by omega, rfl⟩
    · cases lti (rdD xs ((a + l * 3 : Nat) : Int)) (rdD xs ((a + l * 2 : Nat) : Int))
      · exact ⟨a + l * 3, 0, rfl, by omega, by omega, rfl⟩
      · exact ⟨a + l * 2, 0, rfl, by omega, by omega, rfl⟩
end Go.Proofs.YtbcepghanbkncaaGreatDoor.LiT.Sr
