/- Registers: their text, fetches, and what is set and got. -/
import Derived.Test.YtajnhlkkbhobiaaDoorRegLibR
set_option linter.unusedVariables false
set_option linter.unusedSimpArgs false
set_option maxHeartbeats 4000000
namespace Go.Proofs.YtajnhlkkbhobiaaDoor.Reg
open Go.RowKit Go.Eng
theorem pr_put (r : R20) (p i w : Int) (hi : 0 ≤ i ∧ i ≤ 3) (j : Int) : prV (putV r p i w) p j = if j = i then w else prV r p j := by
  have : i = 0 ∨ i = 1 ∨ i = 2 ∨ i = 3 := by omega
  rcases this with rfl | rfl | rfl | rfl
  · unfold prV; simp only [putV, if_true]; split <;> rfl
  · unfold prV; simp only [putV, if_neg (show ¬ (1 : Int) = 0 by decide), if_true]
    by_cases j1 : j = 1
    · subst j1; rfl
    · simp only [if_neg j1]
  · unfold prV; simp only [putV, if_neg (show ¬ (2 : Int) = 0 by decide), if_neg (show ¬ (2 : Int) = 1 by decide), if_true]
    by_cases j2 : j = 2
    · subst j2
      by_cases h3 : p = 3
      · subst h3; rfl
      by_cases h4 : p = 4
      · subst h4; rfl
      simp only [if_neg h3, if_neg h4, if_neg (show ¬ (2 : Int) = 0 by decide), if_neg (show ¬ (2 : Int) = 1 by decide), if_true]
    · simp only [if_neg j2]
      split
      · split <;> (try split) <;> rfl
      · split
        · split <;> (try split) <;> rfl
        · split
          · split <;> (try split) <;> rfl
          · rfl
  · unfold prV; simp only [putV, if_neg (show ¬ (3 : Int) = 0 by decide), if_neg (show ¬ (3 : Int) = 1 by decide), if_neg (show ¬ (3 : Int) = 2 by decide), if_true]
    by_cases j3 : j = 3
    · subst j3; rfl
    · simp only [if_neg j3]
theorem put_pr (r : R20) (p i : Int) : putV r p i (prV r p i) = r := by
  unfold putV prV
  by_cases h0 : i = 0
  · simp only [if_pos h0]
  by_cases h1 : i = 1
  · simp only [if_neg h0, if_pos h1]
  by_cases h2 : i = 2
  · simp only [if_neg h0, if_neg h1, if_pos h2]
    by_cases h3 : p = 3
    · simp only [if_pos h3]
    by_cases h4 : p = 4
    · simp only [if_neg h3, if_pos h4]
    simp only [if_neg h3, if_neg h4]
  by_cases h3 : i = 3
  · simp only [if_neg h0, if_neg h1, if_neg h2, if_pos h3]
  simp only [if_neg h0, if_neg h1, if_neg h2, if_neg h3]
theorem put_put (r : R20) (p i w w2 : Int) : putV (putV r p i w) p i w2 = putV r p i w2 := by
  unfold putV
  by_cases h0 : i = 0
  · simp only [if_pos h0]
  by_cases h1 : i = 1
  · simp only [if_neg h0, if_pos h1]
  by_cases h2 : i = 2
  · simp only [if_neg h0, if_neg h1, if_pos h2]
    by_cases h3 : p = 3
    · simp only [if_pos h3]
    by_cases h4 : p = 4
    · simp only [if_neg h3, if_pos h4]
    simp only [if_neg h3, if_neg h4]
  by_cases h3 : i = 3
  · simp only [if_neg h0, if_neg h1, if_neg h2, if_pos h3]
  simp only [if_neg h0, if_neg h1, if_neg h2, if_neg h3]
theorem pr_af (r : R20) (w p j : Int) : prV (afV r w) p j = prV r p j := rfl
theorem af_put (r : R20) (p i w : Int) : (putV r p i w).1 = r.1 := by
  unfold putV
  split; · rfl
  split; · rfl
  split
  · split; · rfl
    split <;> rfl
  split <;> rfl
theorem set_in {r : R20} (hr : okR r) (p k : Int) {b : Int} (hb : u8 b) : okR (setV r p k b) := by
  obtain ⟨b0, b1⟩ := hb
  have hq := prV_in hr p (k / 2)
  obtain ⟨q0, q1⟩ := hq
  have hw1 : u16 (256 * b + prV r p (k / 2) % 256) := ⟨by omega, by omega⟩
  have hw2 : u16 (prV r p (k / 2) / 256 * 256 + b) := ⟨by omega, by omega⟩
  have hw3 : u16 (256 * b + r.1 % 256) := ⟨by omega, by omega⟩
  unfold setV
  split; · exact okR_af hr hw3
  split; · exact hr
  split
  · exact okR_put hr p _ hw1
  · exact okR_put hr p _ hw2
theorem get_set {r : R20} (hr : okR r) (p k : Int) {b : Int} (hb : u8 b) (hk : 0 ≤ k ∧ k ≤ 7) (h6 : k ≠ 6) : getV (setV r p k b) p k = b := by
  obtain ⟨b0, b1⟩ := hb
  unfold getV setV
  have hx : ∀ x : Int, (256 * b + x % 256) / 256 = b := fun x => by omega
  have hy : ∀ x : Int, (x / 256 * 256 + b) % 256 = b := fun x => by omega
  by_cases h7 : k = 7
  · simp only [if_pos h7]
    exact hx _
  have ho : ¬ (k < 0 ∨ k > 5) := by omega
  have hi : 0 ≤ k / 2 ∧ k / 2 ≤ 3 := by omega
  simp only [if_neg h7, if_neg ho]
  by_cases he : k % 2 = 0
  · simp only [if_pos he, pr_put r p _ _ hi, if_true]
    exact hx _
  · simp only [if_neg he, pr_put r p _ _ hi, if_true]
    exact hy _
theorem get_other {r : R20} (hr : okR r) (p k j : Int) {b : Int} (hb : u8 b) (hk : 0 ≤ k ∧ k ≤ 7) (hj : 0 ≤ j ∧ j ≤ 7) (hne : j ≠ k) : getV (setV r p k b) p j = getV r p j := by
  obtain ⟨b0, b1⟩ := hb
  unfold getV setV
  have hx : ∀ x : Int, (256 * b + x % 256) % 256 = x % 256 := fun x => by omega
  have hy : ∀ x : Int, (x / 256 * 256 + b) / 256 = x / 256 := fun x => by omega
  by_cases h7 : k = 7
  · have j7 : ¬ j = 7 := by omega
    simp only [if_pos h7, if_neg j7, pr_af]
  by_cases ho : k < 0 ∨ k > 5
  · simp only [if_neg h7, if_pos ho]
  have hi : 0 ≤ k / 2 ∧ k / 2 ≤ 3 := by omega
  by_cases j7 : j = 7
  · simp only [if_neg h7, if_neg ho, if_pos j7]
    split
    · rw [af_put]
    · rw [af_put]
  by_cases jo : j < 0 ∨ j > 5
  · simp only [if_neg h7, if_neg ho, if_neg j7, if_pos jo]
  simp only [if_neg h7, if_neg ho, if_neg j7, if_neg jo]
  by_cases he : k % 2 = 0
  · simp only [if_pos he, pr_put r p _ _ hi]
    by_cases h2 : j / 2 = k / 2
    · have hj2 : ¬ j % 2 = 0 := by omega
      simp only [if_pos h2, if_neg hj2, h2]
      exact hx _
    · simp only [if_neg h2]
  · simp only [if_neg he, pr_put r p _ _ hi]
    by_cases h2 : j / 2 = k / 2
    · have hj2 : j % 2 = 0 := by omega
      simp only [if_pos h2, if_pos hj2, h2]
      exact hy _
    · simp only [if_neg h2]
theorem set_back {r : R20} (hr : okR r) (p k : Int) {b : Int} (hb : u8 b) (hk : 0 ≤ k ∧ k ≤ 7) : setV (setV r p k b) p k (getV r p k) = r := by
  obtain ⟨b0, b1⟩ := hb
  unfold setV getV
  by_cases h7 : k = 7
  · simp only [if_pos h7]
    have : 256 * (r.1 / 256) + (afV r (256 * b + r.1 % 256)).1 % 256 = r.1 := by show 256 * (_ / 256) + (256 * b + _ % 256) % 256 = _; omega
    rw [this]
    rfl
  simp only [if_neg h7]
  by_cases ho : k < 0 ∨ k > 5
  · simp only [if_pos ho]
  simp only [if_neg ho]
  have hi : 0 ≤ k / 2 ∧ k / 2 ≤ 3 := by omega
  by_cases he : k % 2 = 0
  · simp only [if_pos he, pr_put r p _ _ hi, if_true]
    rw [put_put, show 256 * (prV r p (k / 2) / 256) + (256 * b + prV r p (k / 2) % 256) % 256 = prV r p (k / 2) by omega, put_pr]
  · simp only [if_neg he, pr_put r p _ _ hi, if_true]
    rw [put_put, show (prV r p (k / 2) / 256 * 256 + b) / 256 * 256 + prV r p (k / 2) % 256 = prV r p (k / 2) by omega, put_pr]
theorem getV_in {r : R20} (hr : okR r) (p k : Int) : u8 (getV r p k) := by
  have hq := prV_in hr p (k / 2)
  obtain ⟨q0, q1⟩ := hq
  obtain ⟨a0, a1⟩ := hr.1
  unfold getV
  split; · exact ⟨by omega, by omega⟩
  split; · exact ⟨by omega, by omega⟩
  split <;> exact ⟨by omega, by omega⟩
def eq20 (a b : R20) : Bool := ((a.1 == b.1) && ((a.2.1 == b.2.1) && ((a.2.2.1 == b.2.2.1) && ((a.2.2.2.1 == b.2.2.2.1) && ((a.2.2.2.2.1 == b.2.2.2.2.1) && ((a.2.2.2.2.2.1 == b.2.2.2.2.2.1) && ((a.2.2.2.2.2.2.1 == b.2.2.2.2.2.2.1) && ((a.2.2.2.2.2.2.2.1 == b.2.2.2.2.2.2.2.1) && ((a.2.2.2.2.2.2.2.2.1 == b.2.2.2.2.2.2.2.2.1) && ((a.2.2.2.2.2.2.2.2.2.1 == b.2.2.2.2.2.2.2.2.2.1) && ((a.2.2.2.2.2.2.2.2.2.2.1 == b.2.2.2.2.2.2.2.2.2.2.1) && ((a.2.2.2.2.2.2.2.2.2.2.2.1 == b.2.2.2.2.2.2.2.2.2.2.2.1) && ((a.2.2.2.2.2.2.2.2.2.2.2.2.1 == b.2.2.2.2.2.2.2.2.2.2.2.2.1) && ((a.2.2.2.2.2.2.2.2.2.2.2.2.2.1 == b.2.2.2.2.2.2.2.2.2.2.2.2.2.1) && ((a.2.2.2.2.2.2.2.2.2.2.2.2.2.2.1 == b.2.2.2.2.2.2.2.2.2.2.2.2.2.2.1) && ((a.2.2.2.2.2.2.2.2.2.2.2.2.2.2.2.1 == b.2.2.2.2.2.2.2.2.2.2.2.2.2.2.2.1) && ((a.2.2.2.2.2.2.2.2.2.2.2.2.2.2.2.2.1 == b.2.2.2.2.2.2.2.2.2.2.2.2.2.2.2.2.1) && ((a.2.2.2.2.2.2.2.2.2.2.2.2.2.2.2.2.2.1 == b.2.2.2.2.2.2.2.2.2.2.2.2.2.2.2.2.2.1) && ((a.2.2.2.2.2.2.2.2.2.2.2.2.2.2.2.2.2.2.1 == b.2.2.2.2.2.2.2.2.2.2.2.2.2.2.2.2.2.2.1) && ((a.2.2.2.2.2.2.2.2.2.2.2.2.2.2.2.2.2.2.2 == b.2.2.2.2.2.2.2.2.2.2.2.2.2.2.2.2.2.2.2) && true))))))))))))))))))))
theorem eq20_refl (a : R20) : eq20 a a = true := by simp [eq20]
theorem eq20_of {a b : R20} (h : a = b) : eq20 a b = true := by rw [h]; exact eq20_refl b
def tickV (r : R20) (n : Int) : R20 := (r.1, r.2.1, r.2.2.1, r.2.2.2.1, r.2.2.2.2.1, r.2.2.2.2.2.1, r.2.2.2.2.2.2.1, r.2.2.2.2.2.2.2.1, r.2.2.2.2.2.2.2.2.1, r.2.2.2.2.2.2.2.2.2.1, r.2.2.2.2.2.2.2.2.2.2.1, r.2.2.2.2.2.2.2.2.2.2.2.1, r.2.2.2.2.2.2.2.2.2.2.2.2.1, r.2.2.2.2.2.2.2.2.2.2.2.2.2.1, r.2.2.2.2.2.2.2.2.2.2.2.2.2.2.1 / 128 * 128 + (r.2.2.2.2.2.2.2.2.2.2.2.2.2.2.1 + n) % 128, r.2.2.2.2.2.2.2.2.2.2.2.2.2.2.2.1, r.2.2.2.2.2.2.2.2.2.2.2.2.2.2.2.2.1, r.2.2.2.2.2.2.2.2.2.2.2.2.2.2.2.2.2.1, r.2.2.2.2.2.2.2.2.2.2.2.2.2.2.2.2.2.2.1, r.2.2.2.2.2.2.2.2.2.2.2.2.2.2.2.2.2.2.2)
def TickR (r : R20) (n : Int) : Option R20 := regs_Tick_32.f 1000 r.1 r.2.1 r.2.2.1 r.2.2.2.1 r.2.2.2.2.1 r.2.2.2.2.2.1 r.2.2.2.2.2.2.1 r.2.2.2.2.2.2.2.1 r.2.2.2.2.2.2.2.2.1 r.2.2.2.2.2.2.2.2.2.1 r.2.2.2.2.2.2.2.2.2.2.1 r.2.2.2.2.2.2.2.2.2.2.2.1 r.2.2.2.2.2.2.2.2.2.2.2.2.1 r.2.2.2.2.2.2.2.2.2.2.2.2.2.1 r.2.2.2.2.2.2.2.2.2.2.2.2.2.2.1 r.2.2.2.2.2.2.2.2.2.2.2.2.2.2.2.1 r.2.2.2.2.2.2.2.2.2.2.2.2.2.2.2.2.1 r.2.2.2.2.2.2.2.2.2.2.2.2.2.2.2.2.2.1 r.2.2.2.2.2.2.2.2.2.2.2.2.2.2.2.2.2.2.1 r.2.2.2.2.2.2.2.2.2.2.2.2.2.2.2.2.2.2.2 n
def TickQ (r : R20) (n : Int) : Option R20 := charabancref11_Tick_33.f 1000 r.1 r.2.1 r.2.2.1 r.2.2.2.1 r.2.2.2.2.1 r.2.2.2.2.2.1 r.2.2.2.2.2.2.1 r.2.2.2.2.2.2.2.1 r.2.2.2.2.2.2.2.2.1 r.2.2.2.2.2.2.2.2.2.1 r.2.2.2.2.2.2.2.2.2.2.1 r.2.2.2.2.2.2.2.2.2.2.2.1 r.2.2.2.2.2.2.2.2.2.2.2.2.1 r.2.2.2.2.2.2.2.2.2.2.2.2.2.1 r.2.2.2.2.2.2.2.2.2.2.2.2.2.2.1 r.2.2.2.2.2.2.2.2.2.2.2.2.2.2.2.1 r.2.2.2.2.2.2.2.2.2.2.2.2.2.2.2.2.1 r.2.2.2.2.2.2.2.2.2.2.2.2.2.2.2.2.2.1 r.2.2.2.2.2.2.2.2.2.2.2.2.2.2.2.2.2.2.1 r.2.2.2.2.2.2.2.2.2.2.2.2.2.2.2.2.2.2.2 n
theorem hib : ((List.range 256).all fun x => bandn .u8 (x : Int) 127 == (x : Int) / 128 * 128 && band .u8 (x : Int) 127 == (x : Int) % 128) = true := by kernel_rfl
theorem orb : ([0, 1].all fun a => (List.range 128).all fun b => bor .u8 ((a : Nat) * 128 : Int) (b : Int) == (a : Int) * 128 + b) = true := by kernel_rfl
theorem tick_u8 {R n : Int} (hR : u8 R) : bor .u8 (bandn .u8 R 127) (band .u8 (IntKind.wrap .u8 (R + (IntKind.wrap .u8 n))) 127) = R / 128 * 128 + (R + n) % 128 := by
  obtain ⟨h0, h1⟩ := hR
  have hx : 0 ≤ IntKind.wrap .u8 (R + (IntKind.wrap .u8 n)) ∧ IntKind.wrap .u8 (R + (IntKind.wrap .u8 n)) ≤ 255 := by rw [IntKind.wrap_u8]; omega
  have hm : IntKind.wrap .u8 (R + (IntKind.wrap .u8 n)) % 128 = (R + n) % 128 := by rw [IntKind.wrap_u8, IntKind.wrap_u8]; omega
  generalize IntKind.wrap .u8 (R + (IntKind.wrap .u8 n)) = x at hx hm ⊢
  have g1 := List.all_eq_true.1 hib R.toNat (List.mem_range.2 (by omega))
  have g2 := List.all_eq_true.1 hib x.toNat (List.mem_range.2 (by omega))
  rw [Int.toNat_of_nonneg h0] at g1
  rw [Int.toNat_of_nonneg hx.1] at g2
  simp only [Bool.and_eq_true, beq_iff_eq] at g1 g2
  rw [g1.1, g2.2, hm]
  have g3 := List.all_eq_true.1 (List.all_eq_true.1 orb (R / 128).toNat (by have : (R / 128).toNat = 0 ∨ (R / 128).toNat = 1 := by omega
                                                                            rcases this with h | h <;> rw [h] <;> simp)) ((R + n) % 128).toNat (List.mem_range.2 (by omega))
  rw [Int.toNat_of_nonneg (by omega), Int.toNat_of_nonneg (by omega)] at g3
  exact eq_of_beq g3
theorem tmod_of (n : Int) : ∃ q, Int.tmod n 128 = q ∧ -127 ≤ q ∧ q ≤ 127 ∧ (n - q) % 128 = 0 := by
  by_cases h : 0 ≤ n
  · exact ⟨n % 128, Int.tmod_eq_emod_of_nonneg h, by omega, by omega, by omega⟩
  · refine ⟨-((-n) % 128), ?_, by omega, by omega, by omega⟩
    have h2 : Int.tmod (-(-n)) 128 = -(Int.tmod (-n) 128) := Int.neg_tmod _ _
    rw [Int.neg_neg] at h2
    rw [h2, Int.tmod_eq_emod_of_nonneg (by omega)]
theorem tick_ref {R n : Int} (hR : u8 R) : IntKind.wrap .u8 (IntKind.wrap .i64 ((IntKind.wrap .i64 ((IntKind.wrap .i64 (Int.tdiv (IntKind.wrap .i64 R) 128)) * 128)) + (Int.tmod (IntKind.wrap .i64 ((Int.tmod (IntKind.wrap .i64 ((Int.tmod (IntKind.wrap .i64 R) 128) + (Int.tmod n 128))) 128) + 128)) 128))) = R / 128 * 128 + (R + n) % 128 := by
  obtain ⟨h0, h1⟩ := hR
  obtain ⟨q, e, q1, q2, q3⟩ := tmod_of n
  rw [e, wrap_i64 (x := R) (by omega) (by omega), Int.tdiv_eq_ediv_of_nonneg h0, Int.tmod_eq_emod_of_nonneg h0, wrap_i64 (x := R / 128) (by omega) (by omega), wrap_i64 (x := R / 128 * 128) (by omega) (by omega), wrap_i64 (x := R % 128 + q) (by omega) (by omega)]
  obtain ⟨s, e2, s1, s2, s3⟩ := tmod_of (R % 128 + q)
  rw [e2, wrap_i64 (x := s + 128) (by omega) (by omega), Int.tmod_eq_emod_of_nonneg (show 0 ≤ s + 128 by omega), wrap_i64 (by omega) (by omega), IntKind.wrap_u8]
  omega
theorem tickR_at {r : R20} (h : u8 r.2.2.2.2.2.2.2.2.2.2.2.2.2.2.1) (n : Int) : TickR r n = some (tickV r n) := by
  have := tick_u8 (n := n) h
  unfold TickR regs_Tick_32.f tickV
  rw [this]
theorem tickQ_at {r : R20} (h : u8 r.2.2.2.2.2.2.2.2.2.2.2.2.2.2.1) (n : Int) : TickQ r n = some (tickV r n) := by
  have := tick_ref (n := n) h
  unfold TickQ charabancref11_Tick_33.f tickV
  rw [this]
def ShowR (r : R20) : Option ByteArray := regs_Show_36.f 1000 r.1 r.2.1 r.2.2.1 r.2.2.2.1 r.2.2.2.2.1 r.2.2.2.2.2.1 r.2.2.2.2.2.2.1 r.2.2.2.2.2.2.2.1 r.2.2.2.2.2.2.2.2.1 r.2.2.2.2.2.2.2.2.2.1 r.2.2.2.2.2.2.2.2.2.2.1 r.2.2.2.2.2.2.2.2.2.2.2.1 r.2.2.2.2.2.2.2.2.2.2.2.2.1 r.2.2.2.2.2.2.2.2.2.2.2.2.2.1 r.2.2.2.2.2.2.2.2.2.2.2.2.2.2.1 r.2.2.2.2.2.2.2.2.2.2.2.2.2.2.2.1 r.2.2.2.2.2.2.2.2.2.2.2.2.2.2.2.2.1 r.2.2.2.2.2.2.2.2.2.2.2.2.2.2.2.2.2.1 r.2.2.2.2.2.2.2.2.2.2.2.2.2.2.2.2.2.2.1 r.2.2.2.2.2.2.2.2.2.2.2.2.2.2.2.2.2.2.2
def ShowQ (r : R20) : Option ByteArray := charabancref11_Show_37.f 1000 r.1 r.2.1 r.2.2.1 r.2.2.2.1 r.2.2.2.2.1 r.2.2.2.2.2.1 r.2.2.2.2.2.2.1 r.2.2.2.2.2.2.2.1 r.2.2.2.2.2.2.2.2.1 r.2.2.2.2.2.2.2.2.2.1 r.2.2.2.2.2.2.2.2.2.2.1 r.2.2.2.2.2.2.2.2.2.2.2.1 r.2.2.2.2.2.2.2.2.2.2.2.2.1 r.2.2.2.2.2.2.2.2.2.2.2.2.2.1 r.2.2.2.2.2.2.2.2.2.2.2.2.2.2.1 r.2.2.2.2.2.2.2.2.2.2.2.2.2.2.2.1 r.2.2.2.2.2.2.2.2.2.2.2.2.2.2.2.2.1 r.2.2.2.2.2.2.2.2.2.2.2.2.2.2.2.2.2.1 r.2.2.2.2.2.2.2.2.2.2.2.2.2.2.2.2.2.2.1 r.2.2.2.2.2.2.2.2.2.2.2.2.2.2.2.2.2.2.2
def S0 (r : R20) (k : Nat) (l : List ByteArray) (t : Int) : Option (List ByteArray) := regs_Show_36.l0 1000 r.1 r.2.1 r.2.2.1 r.2.2.2.1 r.2.2.2.2.1 r.2.2.2.2.2.1 r.2.2.2.2.2.2.1 r.2.2.2.2.2.2.2.1 r.2.2.2.2.2.2.2.2.1 r.2.2.2.2.2.2.2.2.2.1 r.2.2.2.2.2.2.2.2.2.2.1 r.2.2.2.2.2.2.2.2.2.2.2.1 r.2.2.2.2.2.2.2.2.2.2.2.2.1 r.2.2.2.2.2.2.2.2.2.2.2.2.2.1 r.2.2.2.2.2.2.2.2.2.2.2.2.2.2.1 r.2.2.2.2.2.2.2.2.2.2.2.2.2.2.2.1 r.2.2.2.2.2.2.2.2.2.2.2.2.2.2.2.2.1 r.2.2.2.2.2.2.2.2.2.2.2.2.2.2.2.2.2.1 r.2.2.2.2.2.2.2.2.2.2.2.2.2.2.2.2.2.2.1 r.2.2.2.2.2.2.2.2.2.2.2.2.2.2.2.2.2.2.2 k l t
def S1 (r : R20) (k : Nat) (l : List ByteArray) (t : Int) : Option (List ByteArray) := regs_Show_36.l1 1000 r.1 r.2.1 r.2.2.1 r.2.2.2.1 r.2.2.2.2.1 r.2.2.2.2.2.1 r.2.2.2.2.2.2.1 r.2.2.2.2.2.2.2.1 r.2.2.2.2.2.2.2.2.1 r.2.2.2.2.2.2.2.2.2.1 r.2.2.2.2.2.2.2.2.2.2.1 r.2.2.2.2.2.2.2.2.2.2.2.1 r.2.2.2.2.2.2.2.2.2.2.2.2.1 r.2.2.2.2.2.2.2.2.2.2.2.2.2.1 r.2.2.2.2.2.2.2.2.2.2.2.2.2.2.1 r.2.2.2.2.2.2.2.2.2.2.2.2.2.2.2.1 r.2.2.2.2.2.2.2.2.2.2.2.2.2.2.2.2.1 r.2.2.2.2.2.2.2.2.2.2.2.2.2.2.2.2.2.1 r.2.2.2.2.2.2.2.2.2.2.2.2.2.2.2.2.2.2.1 r.2.2.2.2.2.2.2.2.2.2.2.2.2.2.2.2.2.2.2 k l t
def Q0 (r : R20) (k : Nat) (s : ByteArray) (t : Int) : Option ByteArray := charabancref11_Show_37.l0 1000 r.1 r.2.1 r.2.2.1 r.2.2.2.1 r.2.2.2.2.1 r.2.2.2.2.2.1 r.2.2.2.2.2.2.1 r.2.2.2.2.2.2.2.1 r.2.2.2.2.2.2.2.2.1 r.2.2.2.2.2.2.2.2.2.1 r.2.2.2.2.2.2.2.2.2.2.1 r.2.2.2.2.2.2.2.2.2.2.2.1 r.2.2.2.2.2.2.2.2.2.2.2.2.1 r.2.2.2.2.2.2.2.2.2.2.2.2.2.1 r.2.2.2.2.2.2.2.2.2.2.2.2.2.2.1 r.2.2.2.2.2.2.2.2.2.2.2.2.2.2.2.1 r.2.2.2.2.2.2.2.2.2.2.2.2.2.2.2.2.1 r.2.2.2.2.2.2.2.2.2.2.2.2.2.2.2.2.2.1 r.2.2.2.2.2.2.2.2.2.2.2.2.2.2.2.2.2.2.1 r.2.2.2.2.2.2.2.2.2.2.2.2.2.2.2.2.2.2.2 k s t
def NM : List ByteArray := [(⟨#[97, 102]⟩ : ByteArray), (⟨#[98, 99]⟩ : ByteArray), (⟨#[100, 101]⟩ : ByteArray), (⟨#[104, 108]⟩ : ByteArray), (⟨#[105, 120]⟩ : ByteArray), (⟨#[105, 121]⟩ : ByteArray), (⟨#[115, 112]⟩ : ByteArray), (⟨#[112, 99]⟩ : ByteArray)]
def NE : List ByteArray := [(⟨#[97, 102, 61]⟩ : ByteArray), (⟨#[98, 99, 61]⟩ : ByteArray), (⟨#[100, 101, 61]⟩ : ByteArray), (⟨#[104, 108, 61]⟩ : ByteArray), (⟨#[105, 120, 61]⟩ : ByteArray), (⟨#[105, 121, 61]⟩ : ByteArray), (⟨#[115, 112, 61]⟩ : ByteArray), (⟨#[112, 99, 61]⟩ : ByteArray)]
def WS (r : R20) : List Int := [r.1, r.2.1, r.2.2.1, r.2.2.2.1, r.2.2.2.2.2.2.2.2.1, r.2.2.2.2.2.2.2.2.2.1, r.2.2.2.2.2.2.2.2.2.2.1, r.2.2.2.2.2.2.2.2.2.2.2.1]
def FL (r : R20) : List (Bool × ByteArray) := [(r.2.2.2.2.2.2.2.2.2.2.2.2.2.2.2.1, (⟨#[105, 102, 102, 49]⟩ : ByteArray)), (r.2.2.2.2.2.2.2.2.2.2.2.2.2.2.2.2.1, (⟨#[105, 102, 102, 50]⟩ : ByteArray)), (r.2.2.2.2.2.2.2.2.2.2.2.2.2.2.2.2.2.1, (⟨#[104, 97, 108, 116]⟩ : ByteArray))]
theorem S0_step (r : R20) (k : Nat) (l : List ByteArray) (t : Int) : S0 r (k + 1) l t = cond (decide (t < 8)) (cond (inR t 8) (cond (inR t 8) (cond (mayCat (rdD NM t).size 1) ((text_Hex_50.f 1000 (IntKind.wrap .i64 (rdD (WS r) t)) 4).bind fun t30 => cond (mayCat ((rdD NM t) ++ (⟨#[61]⟩ : ByteArray)).size t30.size) (cond (mayBe (l.length + 1) 16)
    (S0 r k (l ++ [(((rdD NM t) ++ (⟨#[61]⟩ : ByteArray)) ++ t30)]) (IntKind.wrap .i64 (t + 1))) none) none) none) none) none) (some l) := rfl
theorem S1_step (r : R20) (k : Nat) (l : List ByteArray) (t : Int) : S1 r (k + 1) l t = cond (decide (t < 3)) (cond (inR t 3) (cond ((rdD (FL r) t).1) (cond (mayBe (l.length + 1) 16) (S1 r k (l ++ [(rdD (FL r) t).2]) (IntKind.wrap .i64 (t + 1))) none) (S1 r k l (IntKind.wrap .i64 (t + 1)))) none) (some l) := rfl
theorem Q0_step (r : R20) (k : Nat) (s : ByteArray) (t : Int) : Q0 r (k + 1) s t = cond (decide (t < 8)) (cond (inR t 8) (cond (mayCat s.size (rdD NE t).size) (cond (inR t 8) ((charabancref09_Hex_53.f 1000 (IntKind.wrap .i64 (rdD (WS r) t)) 4).bind fun t32 => cond (mayCat (s ++ rdD NE t).size t32.size) (cond (mayCat ((s ++ rdD NE t) ++ t32).size 1)
    (Q0 r k (((s ++ rdD NE t) ++ t32) ++ (⟨#[32]⟩ : ByteArray)) (IntKind.wrap .i64 (t + 1))) none) none) none) none) none) (some s) := rfl
theorem wrap_in (x : Int) : i64 (IntKind.wrap .i64 x) := by unfold i64; rw [IntKind.wrap_i64]; omega
def nmL : List (List UInt8) := [[97, 102], [98, 99], [100, 101], [104, 108], [105, 120], [105, 121], [115, 112], [112, 99]]
def ent (r : R20) (i : Nat) : List UInt8 := nmL.getD i [] ++ [61] ++ hexT (IntKind.wrap .i64 ((WS r).getD i 0)) 4
theorem nmL_at (i : Nat) (h : i < 8) : rdD NM (i : Int) = ba (nmL.getD i []) ∧ rdD NE (i : Int) = ba (nmL.getD i [] ++ [61]) ∧ (nmL.getD i []).length = 2 := by
  have : i = 0 ∨ i = 1 ∨ i = 2 ∨ i = 3 ∨ i = 4 ∨ i = 5 ∨ i = 6 ∨ i = 7 := by omega
  rcases this with rfl | rfl | rfl | rfl | rfl | rfl | rfl | rfl <;> exact ⟨rfl, rfl, rfl⟩
theorem ws_at (r : R20) (i : Nat) : rdD (WS r) (i : Int) = (WS r).getD i 0 := rfl
theorem ent_len (r : R20) (i : Nat) (h : i < 8) : (ent r i).length ≤ 50 := by
  have h1 := (nmL_at i h).2.2
  have h2 := hexT_len (IntKind.wrap .i64 ((WS r).getD i 0)) 4
  unfold ent
  simp only [List.length_append, List.length_cons, List.length_nil]
  omega
theorem S0_next (r : R20) (k i : Nat) (l : List ByteArray) (hi : i < 8) (hl : l.length ≤ 100) : S0 r (k + 1) l (i : Int) = S0 r k (l ++ [ba (ent r i)]) ((i + 1 : Nat) : Int) := by
  obtain ⟨n1, n2, n3⟩ := nmL_at i hi
  have h2 := hexT_len (IntKind.wrap .i64 ((WS r).getD i 0)) 4
  rw [S0_step, decide_eq_true (by omega), cond_t, inR_nat hi, cond_t, cond_t, n1, ws_at, goHex (wrap_in _), show (⟨#[61]⟩ : ByteArray) = ba [61] from rfl, ba_app]
  simp only [Option.bind_some, ba_size, ba_app]
  rw [cond_of (cat_of (by omega)), cond_of (cat_of (by simp only [List.length_append, List.length_cons, List.length_nil]; omega)), cond_of (mayBe_of (by omega) (by omega)), wrap_nat (by omega)]
  rfl
theorem S0_end (r : R20) (k : Nat) (l : List ByteArray) : S0 r (k + 1) l ((8 : Nat) : Int) = some l := by rw [S0_step]; rfl
theorem S0_all (r : R20) (k : Nat) : S0 r (k + 9) [] ((0 : Nat) : Int) = some [ba (ent r 0), ba (ent r 1), ba (ent r 2), ba (ent r 3), ba (ent r 4), ba (ent r 5), ba (ent r 6), ba (ent r 7)] := by
  rw [S0_next r (k + 8) 0 _ (by omega) (by simp), S0_next r (k + 7) 1 _ (by omega) (by simp), S0_next r (k + 6) 2 _ (by omega) (by simp), S0_next r (k + 5) 3 _ (by omega) (by simp), S0_next r (k + 4) 4 _ (by omega) (by simp), S0_next r (k + 3) 5 _ (by omega) (by simp), S0_next r (k + 2) 6 _ (by omega) (by simp), S0_next r (k + 1) 7 _ (by omega) (by simp)]
  exact S0_end r k _
theorem Q0_next (r : R20) (k i : Nat) (s : List UInt8) (hi : i < 8) (hl : s.length ≤ 1000) : Q0 r (k + 1) (ba s) (i : Int) = Q0 r k (ba (s ++ ent r i ++ [32])) ((i + 1 : Nat) : Int) := by
  obtain ⟨n1, n2, n3⟩ := nmL_at i hi
  have h2 := hexT_len (IntKind.wrap .i64 ((WS r).getD i 0)) 4
  rw [Q0_step, decide_eq_true (by omega), cond_t, inR_nat hi, cond_t, n2, ws_at, refHex (wrap_in _), show (⟨#[32]⟩ : ByteArray) = ba [32] from rfl]
  rw [Option.bind_some, ba_app, ba_app, ba_app, ba_size, ba_size, ba_size, ba_size, cond_of (cat_of (by simp only [List.length_append, List.length_cons, List.length_nil]; omega)), cond_t, ba_size, cond_of (cat_of (by simp only [List.length_append, List.length_cons, List.length_nil]; omega)), cond_of (cat_of (by simp only [List.length_append, List.length_cons, List.length_nil]; omega)), wrap_nat (by omega)]
  simp only [ent, List.append_assoc]
theorem Q0_end (r : R20) (k : Nat) (s : ByteArray) : Q0 r (k + 1) s ((8 : Nat) : Int) = some s := by rw [Q0_step]; rfl
theorem Q0_all (r : R20) (k : Nat) : Q0 r (k + 9) (ba []) ((0 : Nat) : Int) = some (ba ([] ++ ent r 0 ++ [32] ++ ent r 1 ++ [32] ++ ent r 2 ++ [32] ++ ent r 3 ++ [32] ++ ent r 4 ++ [32] ++ ent r 5 ++ [32] ++ ent r 6 ++ [32] ++ ent r 7 ++ [32])) := by
  have hl : ∀ i, i < 8 → (ent r i).length ≤ 50 := ent_len r
  have h0 := hl 0 (by omega); have h1 := hl 1 (by omega); have h2 := hl 2 (by omega); have h3 := hl 3 (by omega); have h4 := hl 4 (by omega); have h5 := hl 5 (by omega); have h6 := hl 6 (by omega); have h7 := hl 7 (by omega)
  rw [Q0_next r (k + 8) 0 _ (by omega) (by simp), Q0_next r (k + 7) 1 _ (by omega) (by simp only [List.length_append, List.length_cons, List.length_nil]; omega), Q0_next r (k + 6) 2 _ (by omega) (by simp only [List.length_append, List.length_cons, List.length_nil]; omega), Q0_next r (k + 5) 3 _ (by omega) (by simp only [List.length_append, List.length_cons, List.length_nil]; omega), Q0_next r (k + 4) 4 _ (by omega) (by simp only [List.length_append, List.length_cons, List.length_nil]; omega), Q0_next r (k + 3) 5 _ (by omega) (by simp only [List.length_append, List.length_cons, List.length_nil]; omega), Q0_next r (k + 2) 6 _ (by omega) (by simp only [List.length_append, List.length_cons, List.length_nil]; omega), Q0_next r (k + 1) 7 _ (by omega) (by simp only [List.length_append, List.length_cons, List.length_nil]; omega)]
  exact Q0_end r k _
end Go.Proofs.YtajnhlkkbhobiaaDoor.Reg
