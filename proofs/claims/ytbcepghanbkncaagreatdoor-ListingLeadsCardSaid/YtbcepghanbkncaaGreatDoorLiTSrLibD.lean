/- The sort at uint16: patterns broken. -/
import Derived.Test.YtbcepghanbkncaaGreatDoorLiTSrLibC
set_option linter.unusedVariables false
set_option linter.unusedSimpArgs false
namespace Go.Proofs.YtbcepghanbkncaaGreatDoor.LiT.Sr
open Go.RowKit Go.Eng
def npOk (K : Nat) : Bool := (List.range 42).all fun n => slices_nextPowerOfTwo_163.f K ((n : Int) + 8) == some (if n < 8 then 16 else if n < 24 then 32 else 64)
theorem nps (K : Nat) : npOk K = true := by kernel_rfl
theorem np (K : Nat) {n : Nat} (h : 8 ≤ n) (h2 : n ≤ 49) : ∃ e : Nat, e ≤ 6 ∧ slices_nextPowerOfTwo_163.f K (n : Int) = some ((2 ^ e : Nat) : Int) ∧ n < 2 ^ e ∧ 2 ^ e ≤ 2 * n := by
  have := List.all_eq_true.1 (nps K) (n - 8) (List.mem_range.2 (by omega))
  rw [show (((n - 8 : Nat) : Int) + 8) = (n : Int) by omega] at this
  have := eq_of_beq this
  rw [this]
  by_cases h1 : n - 8 < 8
  · exact ⟨4, by omega, by rw [if_pos h1]; rfl, by omega, by omega⟩
  · by_cases h3 : n - 8 < 24
    · exact ⟨5, by omega, by rw [if_neg h1, if_pos h3]; rfl, by omega, by omega⟩
    · exact ⟨6, by omega, by rw [if_neg h1, if_neg h3]; rfl, by omega, by omega⟩
theorem band_pow (x : Int) {e : Nat} (he : e ≤ 6) : ∃ r : Nat, r < 2 ^ e ∧ band .u64 x (IntKind.wrap .u64 (((2 ^ e : Nat) : Int) - 1)) = (r : Int) := by
  have h64 : 2 ^ e ≤ 64 := Nat.le_trans (Nat.pow_le_pow_right (by decide) he) (by decide)
  have hpos : 1 ≤ 2 ^ e := Nat.one_le_two_pow
  have hw : IntKind.wrap .u64 (((2 ^ e : Nat) : Int) - 1) = ((2 ^ e - 1 : Nat) : Int) := by rw [IntKind.wrap_u64]; omega
  rw [hw]
  refine ⟨(BitVec.ofInt 64 x &&& BitVec.ofInt 64 ((2 ^ e - 1 : Nat) : Int)).toNat, ?_, ?_⟩
  · rw [BitVec.toNat_and, BitVec.toNat_ofInt, BitVec.toNat_ofInt, show (((2 ^ e - 1 : Nat) : Int) % ((2 ^ 64 : Nat) : Int)).toNat = 2 ^ e - 1 by omega, Nat.and_two_pow_sub_one_eq_mod]
    exact Nat.mod_lt _ (by omega)
  · show IntKind.wrap .u64 _ = _
    rw [IntKind.wrap_u64]
    have := (BitVec.ofInt 64 x &&& BitVec.ofInt 64 ((2 ^ e - 1 : Nat) : Int)).isLt
    show (((BitVec.ofInt 64 x &&& BitVec.ofInt 64 ((2 ^ e - 1 : Nat) : Int)).toNat : Int)) % _ = _
    omega
theorem break_loop {K : Nat} {p0 : List Int} {a b e : Nat} (he : e ≤ 6) (h8 : a + 8 ≤ b) (h49 : b ≤ 49) (hn : b - a < 2 ^ e) (hn2 : 2 ^ e ≤ 2 * (b - a)) : ∀ (m idx k : Nat) (xs : List Int) (x : Int), a + (b - a) / 4 * 2 + 2 - idx = m → m < k → a ≤ idx → idx ≤ a + (b - a) / 4 * 2 + 2 → b ≤ xs.length → xs.length ≤ 49 →
    ∃ ys : List Int, slices_breakPatternsOrdered_uint16_127.l0 K p0 (a : Int) (b : Int) ((2 ^ e : Nat) : Int) k xs x (idx : Int) = some ys ∧ Go.Sort.PermIn a b xs.toArray ys.toArray ∧ ys.length = xs.length
  | m, idx, 0, xs, x, _, hk, _, _, _, _ => by omega
  | m, idx, k + 1, xs, x, hm, hk, hi, hi2, hb, hl => by
    rw [slices_breakPatternsOrdered_uint16_127.l0.eq_2]
    have e0 : Int.tdiv ((b : Int) - (a : Int)) 4 = (((b - a) / 4 : Nat) : Int) := by rw [Int.tdiv_eq_ediv_of_nonneg (by omega)]; omega
    obtain ⟨l, hl4⟩ : ∃ l, l = (b - a) / 4 := ⟨_, rfl⟩
    rw [wrap_i64 (x := (b : Int) - (a : Int)) (by omega) (by omega), e0, ← hl4, wrap_i64 (x := (l : Int)) (by omega) (by omega), wrap_i64 (x := (l : Int) * 2) (by omega) (by omega), wrap_i64 (x := (a : Int) + (l : Int) * 2) (by omega) (by omega), wrap_i64 (x := (a : Int) + (l : Int) * 2 + 1) (by omega) (by omega)]
    generalize bxor .u64 (bxor .u64 (bxor .u64 x (IntKind.wrap .u64 (x * 2 ^ 13))) (Int.fdiv (bxor .u64 x (IntKind.wrap .u64 (x * 2 ^ 13))) (2 ^ 7))) (IntKind.wrap .u64 ((bxor .u64 (bxor .u64 x (IntKind.wrap .u64 (x * 2 ^ 13))) (Int.fdiv (bxor .u64 x (IntKind.wrap .u64 (x * 2 ^ 13))) (2 ^ 7))) * 2 ^ 17)) = X
    by_cases h : idx ≤ a + l * 2 + 1
    · obtain ⟨r, hr, hrb⟩ := band_pow X he
      rw [decide_eq_true (show (idx : Int) ≤ (a : Int) + (l : Int) * 2 + 1 by omega), cond_t, hrb, wrap_i64 (x := (r : Int)) (by omega) (by omega)]
      have fin : ∀ o : Nat, a ≤ o → o < b → ∃ ys : List Int, slices_breakPatternsOrdered_uint16_127.l0 K p0 (a : Int) (b : Int) ((2 ^ e : Nat) : Int) k (stD (stD xs (idx : Int) (rdD xs (o : Int))) (o : Int) (rdD xs (idx : Int))) X (IntKind.wrap .i64 ((idx : Int) + 1)) = some ys ∧ Go.Sort.PermIn a b xs.toArray ys.toArray ∧ ys.length = xs.length := by
        intro o ho1 ho2
        obtain ⟨ys, g1, g2, g3⟩ := break_loop (K := K) (p0 := p0) he h8 h49 hn hn2 (m - 1) (idx + 1) k (stD (stD xs (idx : Int) (rdD xs (o : Int))) (o : Int) (rdD xs (idx : Int))) X (by omega) (by omega) (by omega) (by omega) (by rw [st_len, st_len]; omega) (by rw [st_len, st_len]; omega)
        rw [st_len, st_len] at g3
        rw [← sw_arr] at g2
        rw [wrap_i64 (by omega) (by omega)]
        exact ⟨ys, g1, Go.Sort.permIn_trans _ _ _ a b (Go.Sort.swp_permIn _ a b idx o hi (by omega) ho1 ho2 (by simpa using hb)) g2, g3⟩
      by_cases hge : b - a ≤ r
      · rw [decide_eq_true (by omega), cond_t, wrap_i64 (x := (r : Int) - ((b : Int) - (a : Int))) (by omega) (by omega), wrap_i64 (x := (a : Int) + ((r : Int) - ((b : Int) - (a : Int)))) (by omega) (by omega), show (a : Int) + ((r : Int) - ((b : Int) - (a : Int))) = ((a + (r - (b - a)) : Nat) : Int) by omega,
          inR_nat (show a + (r - (b - a)) < xs.length by omega), cond_t, inR_nat (show idx < xs.length by omega), cond_t, st_len, inR_nat (show a + (r - (b - a)) < xs.length by omega), cond_t]
        exact fin _ (by omega) (by omega)
      · rw [decide_eq_false (by omega), cond_f, wrap_i64 (x := (a : Int) + (r : Int)) (by omega) (by omega), show (a : Int) + (r : Int) = ((a + r : Nat) : Int) by omega,
          inR_nat (show a + r < xs.length by omega), cond_t, inR_nat (show idx < xs.length by omega), cond_t, st_len, inR_nat (show a + r < xs.length by omega), cond_t]
        exact fin _ (by omega) (by omega)
    · rw [decide_eq_false (by omega), cond_f]
      exact ⟨xs, rfl, Go.Sort.permIn_refl _ _ _, rfl⟩
theorem breaks {K : Nat} (hK : 1000 ≤ K) {xs : List Int} {a b : Nat} (h8 : a + 8 ≤ b) (hb : b ≤ xs.length) (hl : xs.length ≤ 49) : ∃ ys : List Int, slices_breakPatternsOrdered_uint16_127.f K xs (a : Int) (b : Int) = some ys ∧ Go.Sort.PermIn a b xs.toArray ys.toArray ∧ ys.length = xs.length := by
  obtain ⟨e, he, h1, h2, h3⟩ := np K (n := b - a) (by omega) (by omega)
  unfold slices_breakPatternsOrdered_uint16_127.f
  have e0 : Int.tdiv ((b : Int) - (a : Int)) 4 = (((b - a) / 4 : Nat) : Int) := by rw [Int.tdiv_eq_ediv_of_nonneg (by omega)]; omega
  obtain ⟨l, hl4⟩ : ∃ l, l = (b - a) / 4 := ⟨_, rfl⟩
  rw [wrap_i64 (x := (b : Int) - (a : Int)) (by omega) (by omega), e0, ← hl4, wrap_i64 (x := (l : Int)) (by omega) (by omega), wrap_i64 (x := (l : Int) * 2) (by omega) (by omega), wrap_i64 (x := (a : Int) + (l : Int) * 2) (by omega) (by omega), wrap_i64 (x := (a : Int) + (l : Int) * 2 - 1) (by omega) (by omega), decide_eq_true (by omega), cond_t, show (b : Int) - (a : Int) = ((b - a : Nat) : Int) by omega, h1, Option.bind_some, show (a : Int) + (l : Int) * 2 - 1 = ((a + l * 2 - 1 : Nat) : Int) by omega]
  obtain ⟨ys, g1, g2, g3⟩ := break_loop (K := K) (p0 := xs) he h8 (by omega) h2 h3 _ (a + l * 2 - 1) K xs (IntKind.wrap .u64 ((b - a : Nat) : Int)) rfl (by omega) (by omega) (by omega) hb hl
  rw [g1]
  exact ⟨ys, rfl, g2, g3⟩
end Go.Proofs.YtbcepghanbkncaaGreatDoor.LiT.Sr
