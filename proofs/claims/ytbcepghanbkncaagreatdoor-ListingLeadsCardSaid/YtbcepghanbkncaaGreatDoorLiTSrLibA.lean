/- The sort at uint16: told loops are the plain layer's functions. -/
import Derived.Test.YtbcepghanbkncaaGreatDoorLiT4
import Derived.Test.YtbcepghanbkncaaGreatDoorEngPure
import Derived.Sort.AssemblyPlain
set_option linter.unusedVariables false
set_option linter.unusedSimpArgs false
namespace Go.Proofs.YtbcepghanbkncaaGreatDoor.LiT.Sr
open Go.RowKit Go.Eng
def lti (x y : Int) : Bool := decide (x < y)
theorem swo : Go.Sort.SWO lti := ⟨fun x => by simp [lti], fun x y z h1 h2 => by simp [lti] at *; omega, fun x y z h1 h2 => by simp [lti] at *; omega⟩
theorem less (K : Nat) (x y : Int) : cmp_Less_uint16_131.f K x y = some (lti x y) := by
  unfold cmp_Less_uint16_131.f cmp_isNaN_uint16_167.f
  rw [Option.bind_some, bne_self_eq_false, cond_f]; rfl
theorem rd_arr (xs : List Int) (i : Nat) : xs.toArray[i]! = rdD xs (i : Int) := by
  simp only [rdD, Int.toNat_natCast, List.getElem!_toArray, List.getD_eq_getElem?_getD]
  by_cases h : i < xs.length
  · rw [List.getElem?_eq_getElem h, getElem!_pos xs i h]; rfl
  · rw [List.getElem?_eq_none (by omega), getElem!_neg xs i h]; rfl
theorem st_len (xs : List Int) (i : Int) (x : Int) : (stD xs i x).length = xs.length := by simp [stD]
theorem sw_arr (xs : List Int) (i j : Nat) : Go.Sort.swp xs.toArray i j = (stD (stD xs (i : Int) (rdD xs (j : Int))) (j : Int) (rdD xs (i : Int))).toArray := by
  unfold Go.Sort.swp
  rw [rd_arr, rd_arr]
  simp only [stD, Int.toNat_natCast, List.setIfInBounds_toArray]
theorem ins_inner {K : Nat} {p0 : List Int} {a : Nat} {p2 t5 : Int} : ∀ (j k : Nat) (xs : List Int), j < xs.length → xs.length < 1000000 → j < k → ∃ ys : List Int, slices_insertionSortOrdered_uint16_125.l0 K p0 (a : Int) p2 t5 k xs (j : Int) = some ys ∧ Go.Sort.insInner lti a j xs.toArray = ys.toArray ∧ ys.length = xs.length
  | j, 0, xs, _, _, hk => by omega
  | 0, k + 1, xs, hj, hl, hk => by
    refine ⟨xs, ?_, rfl, rfl⟩
    rw [slices_insertionSortOrdered_uint16_125.l0.eq_2]
    simp only [Let]
    rw [decide_eq_false (by omega), cond_f, cond_f]
  | j + 1, k + 1, xs, hj, hl, hk => by
    rw [slices_insertionSortOrdered_uint16_125.l0.eq_2]
    simp only [Let]
    rw [wrap_i64 (x := ((j + 1 : Nat) : Int) - 1) (by omega) (by omega), show ((j + 1 : Nat) : Int) - 1 = (j : Int) by omega, Go.Sort.insInner]
    by_cases h1 : j + 1 > a
    · rw [decide_eq_true (show ((j + 1 : Nat) : Int) > (a : Int) by omega), cond_t, inR_nat hj, cond_t, inR_nat (show j < xs.length by omega), cond_t, less, Option.bind_some, decide_eq_true h1, Bool.true_and, rd_arr, rd_arr]
      cases hlt : lti (rdD xs ((j + 1 : Nat) : Int)) (rdD xs (j : Int)) with
      | true =>
        rw [cond_t, cond_t, cond_t, st_len, inR_nat (show j < xs.length by omega), cond_t, if_pos rfl, sw_arr]
        obtain ⟨ys, h2, h3, h4⟩ := ins_inner (K := K) (p0 := p0) (a := a) (p2 := p2) (t5 := t5) j k (stD (stD xs ((j + 1 : Nat) : Int) (rdD xs (j : Int))) (j : Int) (rdD xs ((j + 1 : Nat) : Int))) (by rw [st_len, st_len]; omega) (by rw [st_len, st_len]; omega) (by omega)
        exact ⟨ys, h2, h3, by rw [h4, st_len, st_len]⟩
      | false => exact ⟨xs, by rw [cond_f], by rw [if_neg (by simp)], rfl⟩
    · refine ⟨xs, ?_, ?_, rfl⟩
      · rw [decide_eq_false (show ¬ ((j + 1 : Nat) : Int) > (a : Int) by omega), cond_f, cond_f]
      · rw [decide_eq_false h1, Bool.false_and, if_neg (by simp)]
theorem ins_outer {K : Nat} {p0 : List Int} {a b : Nat} (hK : 1000 ≤ K) : ∀ (m i k : Nat) (xs : List Int), b ≤ xs.length → xs.length ≤ 200 → b - i = m → m < k → i ≤ 300 → ∃ ys : List Int, slices_insertionSortOrdered_uint16_125.l1 K p0 (a : Int) (b : Int) k xs (i : Int) = some ys ∧ Go.Sort.insOuter lti a b i xs.toArray = ys.toArray ∧ ys.length = xs.length
  | m, i, 0, xs, _, _, _, hk, _ => by omega
  | m, i, k + 1, xs, hb, hl, hm, hk, hi => by
    rw [slices_insertionSortOrdered_uint16_125.l1.eq_2, Go.Sort.insOuter]
    by_cases h : i < b
    · obtain ⟨ys, h2, h3, h4⟩ := ins_inner (K := K) (p0 := p0) (a := a) (p2 := (b : Int)) (t5 := (i : Int)) i K xs (by omega) (by omega) (by omega)
      rw [decide_eq_true (by omega), cond_t, h2, Option.bind_some, if_pos h, h3, wrap_i64 (by omega) (by omega)]
      obtain ⟨zs, g2, g3, g4⟩ := ins_outer (K := K) (p0 := p0) (a := a) (b := b) hK (m - 1) (i + 1) k ys (by omega) (by omega) (by omega) (by omega) (by omega)
      exact ⟨zs, g2, g3, by omega⟩
    · rw [decide_eq_false (by omega), cond_f, if_neg h]
      exact ⟨xs, rfl, rfl, rfl⟩
theorem insertion {K : Nat} (hK : 1000 ≤ K) {xs : List Int} {a b : Nat} (ha : a ≤ b) (hb : b ≤ xs.length) (hl : xs.length ≤ 200) : ∃ ys : List Int, slices_insertionSortOrdered_uint16_125.f K xs (a : Int) (b : Int) = some ys ∧ Go.Sort.insertionSort lti xs.toArray a b = ys.toArray ∧ ys.length = xs.length := by
  obtain ⟨ys, h2, h3, h4⟩ := ins_outer (K := K) (p0 := xs) (a := a) (b := b) hK (b - (a + 1)) (a + 1) K xs hb hl rfl (by omega) (by omega)
  unfold slices_insertionSortOrdered_uint16_125.f
  rw [wrap_i64 (by omega) (by omega), show (a : Int) + 1 = ((a + 1 : Nat) : Int) by omega, h2]
  exact ⟨ys, rfl, h3, h4⟩
theorem sift_loop {K : Nat} {p0 : List Int} {p1 : Int} {hi fi : Nat} : ∀ (m root k : Nat) (xs : List Int), fi + hi ≤ xs.length → xs.length ≤ 200 → root ≤ 300 → hi - root = m → m < k → ∃ (ys : List Int) (z : Lp (List Int) (List Int)), slices_siftDownOrdered_uint16_162.l0 K p0 p1 (hi : Int) (fi : Int) k xs (root : Int) = some z ∧ (z = Lp.go ys ∨ z = Lp.ret ys) ∧ Go.Sort.siftDown lti hi fi root xs.toArray = ys.toArray ∧ ys.length = xs.length
  | m, root, 0, xs, _, _, _, _, hk => by omega
  | m, root, k + 1, xs, hb, hl, hr, hm, hk => by
    rw [slices_siftDownOrdered_uint16_162.l0.eq_2, Go.Sort.siftDown]
    simp only [Let]
    rw [wrap_i64 (x := 2 * (root : Int)) (by omega) (by omega), wrap_i64 (x := 2 * (root : Int) + 1) (by omega) (by omega), wrap_i64 (x := 2 * (root : Int) + 1 + 1) (by omega) (by omega)]
    by_cases h : 2 * root + 1 ≥ hi
    · rw [decide_eq_true (by omega), cond_t, dif_pos h]
      exact ⟨xs, _, rfl, .inl rfl, rfl, rfl⟩
    · rw [decide_eq_false (by omega), cond_f, dif_neg h]
      -- the swap with a child, and on
      have step : ∀ c : Nat, c < hi → root < c → ∃ (ys : List Int) (z : Lp (List Int) (List Int)), (cond (inR (IntKind.wrap .i64 ((fi : Int) + (root : Int))) xs.length) (cond (inR (IntKind.wrap .i64 ((fi : Int) + (c : Int))) xs.length) ((cmp_Less_uint16_131.f K (rdD xs (IntKind.wrap .i64 ((fi : Int) + (root : Int)))) (rdD xs (IntKind.wrap .i64 ((fi : Int) + (c : Int))))).bind fun t39 => cond (!t39) (some (Lp.ret xs)) (cond (inR (IntKind.wrap .i64 ((fi : Int) + (c : Int))) (stD xs (IntKind.wrap .i64 ((fi : Int) + (root : Int))) (rdD xs (IntKind.wrap .i64 ((fi : Int) + (c : Int))))).length) (slices_siftDownOrdered_uint16_162.l0 K p0 p1 (hi : Int) (fi : Int) k (stD (stD xs (IntKind.wrap .i64 ((fi : Int) + (root : Int))) (rdD xs (IntKind.wrap .i64 ((fi : Int) + (c : Int))))) (IntKind.wrap .i64 ((fi : Int) + (c : Int))) (rdD xs (IntKind.wrap .i64 ((fi : Int) + (root : Int))))) (c : Int)) none)) none) none) = some z ∧ (z = Lp.go ys ∨ z = Lp.ret ys) ∧ (if (!lti (xs.toArray[fi + root]!) (xs.toArray[fi + c]!)) = true then xs.toArray else Go.Sort.siftDown lti hi fi c (Go.Sort.swp xs.toArray (fi + root) (fi + c))) = ys.toArray ∧ ys.length = xs.length := by
        intro c hc hrc
        rw [wrap_i64 (x := (fi : Int) + (root : Int)) (by omega) (by omega), wrap_i64 (x := (fi : Int) + (c : Int)) (by omega) (by omega), show (fi : Int) + (root : Int) = ((fi + root : Nat) : Int) by omega, show (fi : Int) + (c : Int) = ((fi + c : Nat) : Int) by omega,
          inR_nat (show fi + root < xs.length by omega), cond_t, inR_nat (show fi + c < xs.length by omega), cond_t, less, Option.bind_some, rd_arr, rd_arr]
        cases hlt : lti (rdD xs ((fi + root : Nat) : Int)) (rdD xs ((fi + c : Nat) : Int)) with
        | false => exact ⟨xs, _, by rw [Bool.not_false, cond_t], .inr rfl, by rw [Bool.not_false, if_pos rfl], rfl⟩
        | true =>
          rw [Bool.not_true, cond_f, st_len, inR_nat (show fi + c < xs.length by omega), cond_t, if_neg (by simp), sw_arr]
          obtain ⟨ys, z, g1, g2, g3, g4⟩ := sift_loop (K := K) (p0 := p0) (p1 := p1) (hi := hi) (fi := fi) (hi - c) c k (stD (stD xs ((fi + root : Nat) : Int) (rdD xs ((fi + c : Nat) : Int))) ((fi + c : Nat) : Int) (rdD xs ((fi + root : Nat) : Int))) (by rw [st_len, st_len]; omega) (by rw [st_len, st_len]; omega) (by omega) rfl (by omega)
          exact ⟨ys, z, g1, g2, g3, by rw [g4, st_len, st_len]⟩
      have s1 := step (2 * root + 1) (by omega) (by omega)
      rw [show ((2 * root + 1 : Nat) : Int) = 2 * (root : Int) + 1 by omega] at s1
      by_cases h2 : 2 * root + 1 + 1 < hi
      · have s2 := step (2 * root + 2) (by omega) (by omega)
        rw [show ((2 * root + 2 : Nat) : Int) = 2 * (root : Int) + 1 + 1 by omega] at s2
        rw [decide_eq_true (show 2 * (root : Int) + 1 + 1 < (hi : Int) by omega), cond_t, decide_eq_true h2, Bool.true_and]
        rw [wrap_i64 (x := (fi : Int) + (2 * (root : Int) + 1)) (by omega) (by omega), wrap_i64 (x := (fi : Int) + (2 * (root : Int) + 1) + 1) (by omega) (by omega), show (fi : Int) + (2 * (root : Int) + 1) = ((fi + (2 * root + 1) : Nat) : Int) by omega, show ((fi + (2 * root + 1) : Nat) : Int) + 1 = ((fi + (2 * root + 1) + 1 : Nat) : Int) by omega,
          inR_nat (show fi + (2 * root + 1) < xs.length by omega), cond_t, inR_nat (show fi + (2 * root + 1) + 1 < xs.length by omega), cond_t, less, Option.bind_some, rd_arr, rd_arr]
        cases hlt : lti (rdD xs ((fi + (2 * root + 1) : Nat) : Int)) (rdD xs ((fi + (2 * root + 1) + 1 : Nat) : Int)) with
        | true =>
          rw [cond_t, if_pos rfl, dif_pos (show 2 * root + 2 < hi by omega)]
          exact s2
        | false =>
          rw [cond_f, if_neg (by simp)]
          rw [wrap_i64 (x := (fi : Int) + (2 * (root : Int) + 1)) (by omega) (by omega), show (fi : Int) + (2 * (root : Int) + 1) = ((fi + (2 * root + 1) : Nat) : Int) by omega, inR_nat (show fi + (2 * root + 1) < xs.length by omega), rd_arr xs (fi + (2 * root + 1))] at s1
          exact s1
      · rw [decide_eq_false (show ¬ 2 * (root : Int) + 1 + 1 < (hi : Int) by omega), cond_f, cond_f, decide_eq_false h2, Bool.false_and, if_neg (by simp)]
        exact s1
theorem sift {K : Nat} (hK : 1000 ≤ K) {xs : List Int} {root hi fi : Nat} (hb : fi + hi ≤ xs.length) (hl : xs.length ≤ 200) (hr : root ≤ 300) : ∃ ys : List Int, slices_siftDownOrdered_uint16_162.f K xs (root : Int) (hi : Int) (fi : Int) = some ys ∧ Go.Sort.siftDown lti hi fi root xs.toArray = ys.toArray ∧ ys.length = xs.length := by
  obtain ⟨ys, z, h1, h2, h3, h4⟩ := sift_loop (K := K) (p0 := xs) (p1 := (root : Int)) (hi := hi) (fi := fi) (hi - root) root K xs hb hl hr rfl (by omega)
  unfold slices_siftDownOrdered_uint16_162.f
  rw [h1, Option.bind_some]
  refine ⟨ys, ?_, h3, h4⟩
  rcases h2 with rfl | rfl <;> rfl
theorem beq_len {a b : Nat} (h : a = b) : Nat.beq a b = true := by rw [h]; simp
theorem heap_build {K : Nat} (hK : 1000 ≤ K) {p0 : List Int} {a b : Nat} (hab : a ≤ b) : ∀ (n k : Nat) (xs : List Int), b ≤ xs.length → xs.length ≤ 200 → n ≤ 300 → n < k → ∃ ys : List Int, slices_heapSortOrdered_uint16_126.l0 K p0 (a : Int) (b : Int) k xs ((n : Int) - 1) = some ys ∧ Go.Sort.heapBuild lti (b - a) a n xs.toArray = ys.toArray ∧ ys.length = xs.length
  | n, 0, xs, _, _, _, hk => by omega
  | 0, k + 1, xs, hb, hl, hn, hk => by
    rw [slices_heapSortOrdered_uint16_126.l0.eq_2, decide_eq_false (by omega), cond_f]
    exact ⟨xs, rfl, rfl, rfl⟩
  | n + 1, k + 1, xs, hb, hl, hn, hk => by
    obtain ⟨ys, h1, h2, h3⟩ := sift hK (xs := xs) (root := n) (hi := b - a) (fi := a) (by omega) hl (by omega)
    rw [slices_heapSortOrdered_uint16_126.l0.eq_2, decide_eq_true (by omega), cond_t, wrap_i64 (x := (b : Int) - (a : Int)) (by omega) (by omega), show ((n + 1 : Nat) : Int) - 1 = (n : Int) by omega, show (b : Int) - (a : Int) = ((b - a : Nat) : Int) by omega, h1, Option.bind_some, beq_len h3, cond_t, wrap_i64 (by omega) (by omega)]
    obtain ⟨zs, g1, g2, g3⟩ := heap_build hK (p0 := p0) hab n k ys (by omega) (by omega) (by omega) (by omega)
    refine ⟨zs, g1, ?_, by omega⟩
    rw [Go.Sort.heapBuild, h2, g2]
theorem heap_pop {K : Nat} (hK : 1000 ≤ K) {p0 : List Int} {a b : Nat} (hab : a ≤ b) : ∀ (n k : Nat) (xs : List Int), a + n ≤ xs.length → xs.length ≤ 200 → n < k → ∃ ys : List Int, slices_heapSortOrdered_uint16_126.l1 K p0 (a : Int) (b : Int) k xs ((n : Int) - 1) = some ys ∧ Go.Sort.heapPop lti a n xs.toArray = ys.toArray ∧ ys.length = xs.length
  | n, 0, xs, _, _, hk => by omega
  | 0, k + 1, xs, hb, hl, hk => by
    rw [slices_heapSortOrdered_uint16_126.l1.eq_2, decide_eq_false (by omega), cond_f]
    exact ⟨xs, rfl, rfl, rfl⟩
  | n + 1, k + 1, xs, hb, hl, hk => by
    rw [slices_heapSortOrdered_uint16_126.l1.eq_2]
    simp only [Let]
    obtain ⟨ys, h1, h2, h3⟩ := sift hK (xs := stD (stD xs (a : Int) (rdD xs ((a + n : Nat) : Int))) ((a + n : Nat) : Int) (rdD xs (a : Int))) (root := 0) (hi := n) (fi := a) (by rw [st_len, st_len]; omega) (by rw [st_len, st_len]; omega) (by omega)
    rw [decide_eq_true (by omega), cond_t, show ((n + 1 : Nat) : Int) - 1 = (n : Int) by omega, wrap_i64 (x := (a : Int) + (n : Int)) (by omega) (by omega), show (a : Int) + (n : Int) = ((a + n : Nat) : Int) by omega, inR_nat (show a + n < xs.length by omega), cond_t, inR_nat (show a < xs.length by omega), cond_t, st_len, inR_nat (show a + n < xs.length by omega), cond_t]
    rw [show slices_siftDownOrdered_uint16_162.f K (stD (stD xs (a : Int) (rdD xs ((a + n : Nat) : Int))) ((a + n : Nat) : Int) (rdD xs (a : Int))) 0 (n : Int) (a : Int) = some ys from h1, Option.bind_some, beq_len h3, cond_t, wrap_i64 (by omega) (by omega)]
    rw [st_len, st_len] at h3
    obtain ⟨zs, g1, g2, g3⟩ := heap_pop hK (p0 := p0) hab n k ys (by omega) (by omega) (by omega)
    refine ⟨zs, g1, ?_, by omega⟩
    rw [Go.Sort.heapPop, sw_arr, h2, g2]
theorem heap {K : Nat} (hK : 1000 ≤ K) {xs : List Int} {a b : Nat} (hab : a < b) (hb : b ≤ xs.length) (hl : xs.length ≤ 200) : ∃ ys : List Int, slices_heapSortOrdered_uint16_126.f K xs (a : Int) (b : Int) = some ys ∧ Go.Sort.heapSort lti xs.toArray a b = ys.toArray ∧ ys.length = xs.length := by
  obtain ⟨ys, h1, h2, h3⟩ := heap_build hK (p0 := xs) (a := a) (b := b) (by omega) ((b - a - 1) / 2 + 1) K xs hb hl (by omega) (by omega)
  obtain ⟨zs, g1, g2, g3⟩ := heap_pop hK (p0 := xs) (a := a) (b := b) (by omega) (b - a) K ys (by omega) (by omega) (by omega)
  unfold slices_heapSortOrdered_uint16_126.f
  rw [wrap_i64 (x := (b : Int) - (a : Int)) (by omega) (by omega), wrap_i64 (x := (b : Int) - (a : Int) - 1) (by omega) (by omega), Int.tdiv_eq_ediv_of_nonneg (show 0 ≤ (b : Int) - (a : Int) - 1 by omega), wrap_i64 (by omega) (by omega), show ((b : Int) - (a : Int) - 1) / 2 = (((b - a - 1) / 2 + 1 : Nat) : Int) - 1 by omega, h1, Option.bind_some, show (b : Int) - (a : Int) - 1 = ((b - a : Nat) : Int) - 1 by omega, g1]
  exact ⟨zs, rfl, by unfold Go.Sort.heapSort; rw [h2, g2], by omega⟩
end Go.Proofs.YtbcepghanbkncaaGreatDoor.LiT.Sr
