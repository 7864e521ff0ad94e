/- The sort at uint16: scans, partitions. -/
import Derived.Test.YtbcepghanbkncaaGreatDoorLiTSrLibA
set_option linter.unusedVariables false
set_option linter.unusedSimpArgs false
namespace Go.Proofs.YtbcepghanbkncaaGreatDoor.LiT.Sr
open Go.RowKit Go.Eng
theorem up_loop {F : Nat → Int → Option Int} {xs : List Int} {p : Int → Bool} {j : Nat} (hl : xs.length ≤ 200) (hj : j < xs.length)
    (h1 : ∀ k (i : Nat), i ≤ j → F (k + 1) (i : Int) = cond (p (rdD xs (i : Int))) (F k (IntKind.wrap .i64 ((i : Int) + 1))) (some (i : Int))) (h2 : ∀ k (i : Nat), ¬ i ≤ j → F (k + 1) (i : Int) = some (i : Int)) :
    ∀ (m i k : Nat), j + 1 - i = m → m < k → i ≤ 300 → F k (i : Int) = some ((Go.Sort.scanUp p xs.toArray j i : Nat) : Int)
  | m, i, 0, _, hk, _ => by omega
  | m, i, k + 1, hm, hk, hi => by
    rw [Go.Sort.scanUp]
    by_cases h : i ≤ j
    · rw [h1 k i h, decide_eq_true h, Bool.true_and, rd_arr]
      cases hp : p (rdD xs (i : Int)) with
      | true =>
        rw [cond_t, if_pos rfl, wrap_i64 (by omega) (by omega)]
        exact up_loop hl hj h1 h2 (m - 1) (i + 1) k (by omega) (by omega) (by omega)
      | false => rw [cond_f, if_neg (by simp)]
    · rw [h2 k i h, decide_eq_false h, Bool.false_and, if_neg (by simp)]
theorem down_loop {G : Nat → Int → Option Int} {xs : List Int} {p : Int → Bool} {i : Nat} (hl : xs.length ≤ 200) (hi : 1 ≤ i)
    (h1 : ∀ k (j : Nat), j < xs.length → i ≤ j → G (k + 1) (j : Int) = cond (p (rdD xs (j : Int))) (G k (IntKind.wrap .i64 ((j : Int) - 1))) (some (j : Int))) (h2 : ∀ k (j : Nat), ¬ i ≤ j → G (k + 1) (j : Int) = some (j : Int)) :
    ∀ (j k : Nat), j < xs.length → j < k → G k (j : Int) = some ((Go.Sort.scanDown p xs.toArray i j : Nat) : Int)
  | j, 0, _, hk => by omega
  | 0, k + 1, hj, hk => by rw [h2 k 0 (by omega)]; rfl
  | j + 1, k + 1, hj, hk => by
    rw [Go.Sort.scanDown]
    by_cases h : i ≤ j + 1
    · rw [h1 k (j + 1) hj h, decide_eq_true h, Bool.true_and, rd_arr]
      cases hp : p (rdD xs ((j + 1 : Nat) : Int)) with
      | true =>
        rw [cond_t, if_pos rfl, wrap_i64 (by omega) (by omega), show ((j + 1 : Nat) : Int) - 1 = (j : Int) by omega]
        exact down_loop hl hi h1 h2 j k (by omega) (by omega)
      | false => rw [cond_f, if_neg (by simp)]
    · rw [h2 k (j + 1) h, decide_eq_false h, Bool.false_and, if_neg (by simp)]
theorem scanUp_ge (p : Int → Bool) (d : Array Int) (j : Nat) : ∀ (m i : Nat), j + 1 - i = m → i ≤ Go.Sort.scanUp p d j i ∧ (Go.Sort.scanUp p d j i ≤ j + 1 ∨ Go.Sort.scanUp p d j i = i)
  | m, i, hm => by
    rw [Go.Sort.scanUp]
    split
    · rename_i h
      have h : i ≤ j := by simp at h; exact h.1
      have ih := scanUp_ge p d j (m - 1) (i + 1) (by omega)
      omega
    · omega
termination_by m => m
decreasing_by
  simp_all; omega
theorem scanDown_le (p : Int → Bool) (d : Array Int) (i : Nat) : ∀ j : Nat, Go.Sort.scanDown p d i j ≤ j
  | 0 => Nat.le_refl _
  | j + 1 => by
    rw [Go.Sort.scanDown]
    split
    · have := scanDown_le p d i j; omega
    · omega
theorem part_up {K : Nat} {p0 xs : List Int} {a j : Nat} {p2 p3 : Int} (hl : xs.length ≤ 200) (ha : a < xs.length) (hj : j < xs.length) {i k : Nat} (hi : i ≤ 300) (hk : 300 < k) :
    slices_partitionOrdered_uint16_133.l2 K p0 (a : Int) p2 p3 xs (j : Int) k (i : Int) = some ((Go.Sort.scanUp (fun x => lti x xs.toArray[a]!) xs.toArray j i : Nat) : Int) := by
  refine up_loop hl hj (p := fun x => lti x xs.toArray[a]!) (fun k i h => ?_) (fun k i h => ?_) _ i k rfl (by omega) hi
  · rw [slices_partitionOrdered_uint16_133.l2.eq_2]
    simp only [Let]
    rw [decide_eq_true (show (i : Int) ≤ (j : Int) by omega), cond_t, inR_nat (show i < xs.length by omega), cond_t, inR_nat ha, cond_t, less, Option.bind_some, rd_arr]
  · rw [slices_partitionOrdered_uint16_133.l2.eq_2]
    simp only [Let]
    rw [decide_eq_false (show ¬ (i : Int) ≤ (j : Int) by omega), cond_f, cond_f]
theorem part_down {K : Nat} {p0 xs : List Int} {a i : Nat} {p2 p3 : Int} (hl : xs.length ≤ 200) (ha : a < xs.length) (hi : 1 ≤ i) {j k : Nat} (hj : j < xs.length) (hk : 300 < k) :
    slices_partitionOrdered_uint16_133.l3 K p0 (a : Int) p2 p3 xs (i : Int) k (j : Int) = some ((Go.Sort.scanDown (fun x => !lti x xs.toArray[a]!) xs.toArray i j : Nat) : Int) := by
  refine down_loop hl hi (p := fun x => !lti x xs.toArray[a]!) (fun k j hj h => ?_) (fun k j h => ?_) j k hj (by omega)
  · rw [slices_partitionOrdered_uint16_133.l3.eq_2]
    simp only [Let]
    rw [decide_eq_true (show (i : Int) ≤ (j : Int) by omega), cond_t, inR_nat hj, cond_t, inR_nat ha, cond_t, less, Option.bind_some, rd_arr]
  · rw [slices_partitionOrdered_uint16_133.l3.eq_2]
    simp only [Let]
    rw [decide_eq_false (show ¬ (i : Int) ≤ (j : Int) by omega), cond_f, cond_f]
theorem part_loop {K : Nat} (hK : 1000 ≤ K) {p0 : List Int} {a : Nat} {p2 p3 : Int} : ∀ (m i j k : Nat) (xs : List Int), a < xs.length → xs.length ≤ 200 → 1 ≤ i → i ≤ 300 → j < xs.length → j + 1 - i = m → m < k → ∃ (ys : List Int) (q : Nat), slices_partitionOrdered_uint16_133.l4 K p0 (a : Int) p2 p3 k xs (i : Int) (j : Int) = some (ys, (q : Int)) ∧ Go.Sort.partLoop lti a i j xs.toArray = (q, ys.toArray) ∧ ys.length = xs.length ∧ q ≤ j
  | m, i, j, 0, xs, _, _, _, _, _, _, hk => by omega
  | m, i, j, k + 1, xs, ha, hl, hi, hi2, hj, hm, hk => by
    rw [slices_partitionOrdered_uint16_133.l4.eq_2, part_up hl ha hj hi2 (by omega), Option.bind_some, Go.Sort.partLoop]
    have hge := scanUp_ge (fun x => lti x xs.toArray[a]!) xs.toArray j (j + 1 - i) i rfl
    generalize hI : Go.Sort.scanUp (fun x => lti x xs.toArray[a]!) xs.toArray j i = I at hge ⊢
    rw [part_down hl ha (by omega) hj (by omega), Option.bind_some]
    have hle := scanDown_le (fun x => !lti x xs.toArray[a]!) xs.toArray I j
    show ∃ (ys : List Int) (q : Nat), _ ∧ (if I > Go.Sort.scanDown (fun x => !lti x xs.toArray[a]!) xs.toArray I j then (Go.Sort.scanDown (fun x => !lti x xs.toArray[a]!) xs.toArray I j, xs.toArray) else _) = _ ∧ _
    generalize Go.Sort.scanDown (fun x => !lti x xs.toArray[a]!) xs.toArray I j = J at hle ⊢
    by_cases h : I > J
    · rw [decide_eq_true (by omega), cond_t, if_pos h]
      exact ⟨xs, J, rfl, rfl, rfl, hle⟩
    · rw [decide_eq_false (by omega), cond_f, inR_nat (show J < xs.length by omega), cond_t, inR_nat (show I < xs.length by omega), cond_t, st_len, inR_nat (show J < xs.length by omega), cond_t, if_neg h, dif_pos (by omega), sw_arr,
        wrap_i64 (x := (I : Int) + 1) (by omega) (by omega), wrap_i64 (x := (J : Int) - 1) (by omega) (by omega), show (I : Int) + 1 = ((I + 1 : Nat) : Int) by omega, show (J : Int) - 1 = ((J - 1 : Nat) : Int) by omega]
      obtain ⟨ys, q, g1, g2, g3, g4⟩ := part_loop hK (p0 := p0) (a := a) (p2 := p2) (p3 := p3) (J - 1 + 1 - (I + 1)) (I + 1) (J - 1) k (stD (stD xs (I : Int) (rdD xs (J : Int))) (J : Int) (rdD xs (I : Int))) (by rw [st_len, st_len]; omega) (by rw [st_len, st_len]; omega) (by omega) (by omega) (by rw [st_len, st_len]; omega) rfl (by omega)
      rw [st_len, st_len] at g3
      exact ⟨ys, q, g1, g2, g3, by omega⟩
theorem part_up0 {K : Nat} {p0 : List Int} {a b pv : Nat} (hl : p0.length ≤ 200) (ha : a < b) (hb : b ≤ p0.length) {i k : Nat} (hi : i ≤ 300) (hk : 300 < k) {xs : List Int} (hx : xs = stD (stD p0 (a : Int) (rdD p0 (pv : Int))) (pv : Int) (rdD p0 (a : Int))) :
    slices_partitionOrdered_uint16_133.l0 K p0 (a : Int) (b : Int) (pv : Int) k (i : Int) = some ((Go.Sort.scanUp (fun x => lti x xs.toArray[a]!) xs.toArray (b - 1) i : Nat) : Int) := by
  have hxl : xs.length = p0.length := by rw [hx, st_len, st_len]
  refine up_loop (by omega) (show b - 1 < xs.length by omega) (p := fun x => lti x xs.toArray[a]!) (fun k i h => ?_) (fun k i h => ?_) _ i k rfl (by omega) hi
  · rw [slices_partitionOrdered_uint16_133.l0.eq_2, ← hx]
    simp only [Let]
    rw [wrap_i64 (x := (b : Int) - 1) (by omega) (by omega), decide_eq_true (show (i : Int) ≤ (b : Int) - 1 by omega), cond_t, inR_nat (show i < xs.length by omega), cond_t, inR_nat (show a < xs.length by omega), cond_t, less, Option.bind_some, rd_arr]
  · rw [slices_partitionOrdered_uint16_133.l0.eq_2, ← hx]
    simp only [Let]
    rw [wrap_i64 (x := (b : Int) - 1) (by omega) (by omega), decide_eq_false (show ¬ (i : Int) ≤ (b : Int) - 1 by omega), cond_f, cond_f]
theorem part_down0 {K : Nat} {p0 : List Int} {a b pv i : Nat} (hl : p0.length ≤ 200) (ha : a < p0.length) (hi : 1 ≤ i) {j k : Nat} (hj : j < p0.length) (hk : 300 < k) {xs : List Int} (hx : xs = stD (stD p0 (a : Int) (rdD p0 (pv : Int))) (pv : Int) (rdD p0 (a : Int))) :
    slices_partitionOrdered_uint16_133.l1 K p0 (a : Int) (b : Int) (pv : Int) (i : Int) k (j : Int) = some ((Go.Sort.scanDown (fun x => !lti x xs.toArray[a]!) xs.toArray i j : Nat) : Int) := by
  have hxl : xs.length = p0.length := by rw [hx, st_len, st_len]
  refine down_loop (by omega) hi (p := fun x => !lti x xs.toArray[a]!) (fun k j hj h => ?_) (fun k j h => ?_) j k (by omega) (by omega)
  · rw [slices_partitionOrdered_uint16_133.l1.eq_2, ← hx]
    simp only [Let]
    rw [decide_eq_true (show (i : Int) ≤ (j : Int) by omega), cond_t, inR_nat hj, cond_t, inR_nat (show a < xs.length by omega), cond_t, less, Option.bind_some, rd_arr]
  · rw [slices_partitionOrdered_uint16_133.l1.eq_2, ← hx]
    simp only [Let]
    rw [decide_eq_false (show ¬ (i : Int) ≤ (j : Int) by omega), cond_f, cond_f]
theorem partition {K : Nat} (hK : 1000 ≤ K) {p0 : List Int} {a b pv : Nat} (hl : p0.length ≤ 200) (hb : b ≤ p0.length) (h1 : a ≤ pv) (h2 : pv < b) : ∃ (ys : List Int) (q : Nat) (f : Bool), slices_partitionOrdered_uint16_133.f K p0 (a : Int) (b : Int) (pv : Int) = some (ys, (q : Int), f) ∧ Go.Sort.partition lti p0.toArray a b pv = (q, f, ys.toArray) ∧ ys.length = p0.length := by
  obtain ⟨xs, hx⟩ : ∃ xs, xs = stD (stD p0 (a : Int) (rdD p0 (pv : Int))) (pv : Int) (rdD p0 (a : Int)) := ⟨_, rfl⟩
  have hxl : xs.length = p0.length := by rw [hx, st_len, st_len]
  unfold slices_partitionOrdered_uint16_133.f Go.Sort.partition
  simp only [Let]
  rw [sw_arr, ← hx, inR_nat (show pv < p0.length by omega), cond_t, inR_nat (show a < p0.length by omega), cond_t, st_len, inR_nat (show pv < p0.length by omega), cond_t, wrap_i64 (x := (a : Int) + 1) (by omega) (by omega), wrap_i64 (x := (b : Int) - 1) (by omega) (by omega), show (a : Int) + 1 = ((a + 1 : Nat) : Int) by omega, show (b : Int) - 1 = ((b - 1 : Nat) : Int) by omega,
    part_up0 hl (by omega) hb (by omega) (by omega) hx, Option.bind_some]
  have hge := scanUp_ge (fun x => lti x xs.toArray[a]!) xs.toArray (b - 1) (b - 1 + 1 - (a + 1)) (a + 1) rfl
  generalize Go.Sort.scanUp (fun x => lti x xs.toArray[a]!) xs.toArray (b - 1) (a + 1) = I at hge ⊢
  rw [part_down0 (b := b) hl (by omega) (show 1 ≤ I by omega) (show b - 1 < p0.length by omega) (by omega) hx, Option.bind_some]
  have hle := scanDown_le (fun x => !lti x xs.toArray[a]!) xs.toArray I (b - 1)
  generalize Go.Sort.scanDown (fun x => !lti x xs.toArray[a]!) xs.toArray I (b - 1) = J at hle ⊢
  by_cases h : I > J
  · rw [decide_eq_true (by omega), cond_t, if_pos h, st_len, inR_nat (show a < xs.length by omega), inR_nat (show J < xs.length by omega), cond_t, cond_t, cond_t, sw_arr]
    exact ⟨_, J, true, rfl, rfl, by rw [st_len, st_len, hxl]⟩
  · rw [decide_eq_false (by omega), cond_f, if_neg h, st_len, inR_nat (show J < xs.length by omega), inR_nat (show I < xs.length by omega), cond_t, cond_t, cond_t, sw_arr,
      wrap_i64 (x := (I : Int) + 1) (by omega) (by omega), wrap_i64 (x := (J : Int) - 1) (by omega) (by omega), show (I : Int) + 1 = ((I + 1 : Nat) : Int) by omega, show (J : Int) - 1 = ((J - 1 : Nat) : Int) by omega]
    obtain ⟨ys, q, g1, g2, g3, g4⟩ := part_loop hK (p0 := p0) (a := a) (p2 := (b : Int)) (p3 := (pv : Int)) (J - 1 + 1 - (I + 1)) (I + 1) (J - 1) K (stD (stD xs (I : Int) (rdD xs (J : Int))) (J : Int) (rdD xs (I : Int))) (by rw [st_len, st_len]; omega) (by rw [st_len, st_len]; omega) (by omega) (by omega) (by rw [st_len, st_len]; omega) rfl (by omega)
    rw [st_len, st_len] at g3
    rw [g1, Option.bind_some, g2]
    dsimp only
    rw [st_len, inR_nat (show a < ys.length by omega), inR_nat (show q < ys.length by omega), cond_t, cond_t, cond_t, sw_arr]
    exact ⟨_, q, false, rfl, rfl, by rw [st_len, st_len]; omega⟩
end Go.Proofs.YtbcepghanbkncaaGreatDoor.LiT.Sr
