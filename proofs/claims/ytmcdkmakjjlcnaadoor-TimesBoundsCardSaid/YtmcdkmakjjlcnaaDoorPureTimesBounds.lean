/- The plain law of TimesBounds. -/
import Derived.Test.YtmcdkmakjjlcnaaDoorTimTimesBounds
import Derived.Test.YtmcdkmakjjlcnaaDoorTimLibT
namespace Go.Proofs.YtmcdkmakjjlcnaaDoor.Pure
open Go.RowKit Go.Eng Go.Proofs.YtmcdkmakjjlcnaaDoor.Tim
theorem TimesBounds (a0 : Int) (a1 : Int) (a2 : Int) (w0 : (Lit.int .i64 a0).wf = true) (w1 : (Lit.int .u8 a1).wf = true) (w2 : (Lit.int .u8 a2).wf = true) : ∃ K, charabanclaw10_TimesBounds_5.f K a0 a1 a2 = some true := by
  have hc : 0 ≤ a1 ∧ a1 ≤ 255 := u8_of w1
  refine ⟨1000, ?_⟩
  unfold charabanclaw10_TimesBounds_5.f
  rw [awake_eq]
  simp only [Option.bind_some, Bool.not_true, cond_f]
  rw [(of_at hc a2 0 0 0 false).1, (of_at hc a2 0 0 0 true).1, (of_at hc a2 0 0 2 false).1, (asks_at hc a2 0 0 2).1]
  obtain ⟨⟨x, xf⟩, ⟨y, yf⟩, h1, h2, _, _, h5⟩ := base_at (p := a0) hc
  unfold stN
  rw [h1, h2]
  simp only [Option.bind_some, Let, Option.getD_some]
  by_cases hp : 0 ≤ a0 ∧ a0 ≤ 6
  · rw [if_pos hp] at h5
    unfold baseOk at h5
    rw [if_neg (by omega)] at h5
    simp only [Bool.and_eq_true, decide_eq_true_eq, Bool.or_eq_true, beq_iff_eq] at h5
    obtain ⟨⟨⟨⟨rfl, rfl⟩, h3⟩, h4⟩, h6⟩ := h5
    have k4 : IntKind.wrap .i64 (4 * 0) = 0 := rfl
    have k8 : IntKind.wrap .i64 (4 * 2) = 8 := rfl
    simp only [up, if_true, k4, k8, Int.add_zero]
    rw [decide_eq_false (show ¬ a0 < 0 by omega), decide_eq_false (show ¬ a0 > 6 by omega)]
    simp only [cond_f]
    rw [wrap_i64 (show -9223372036854775808 ≤ x by omega) (by omega), wrap_i64 (show -9223372036854775808 ≤ y by omega) (by omega), wrap_i64 (show -9223372036854775808 ≤ x + 8 by omega) (by omega), wrap_i64 (show -9223372036854775808 ≤ y + 8 by omega) (by omega), wrap_i64 (show -9223372036854775808 ≤ y - x by omega) (by omega)]
    rw [decide_eq_false (show ¬ x < 4 by omega), decide_eq_false (show ¬ x > 23 by omega)]
    simp only [cond_f, bne_self_eq_false]
    by_cases h : y = x
    · subst h; simp
    · rw [show (y == x) = false by simpa using h, show (y + 8 != x + 8) = true by simp; omega, decide_eq_true (show y - x ≥ 5 by omega), decide_eq_true (show y - x ≤ 7 by omega)]
      rfl
  · rw [if_neg hp] at h5
    unfold baseOk at h5
    simp only [if_true, Bool.and_eq_true, beq_iff_eq] at h5
    obtain ⟨h6, h7⟩ := h5
    obtain ⟨rfl, rfl⟩ := Prod.mk.inj h6
    obtain ⟨rfl, rfl⟩ := Prod.mk.inj h7
    by_cases h0 : a0 < 0
    · rw [decide_eq_true h0]; rfl
    · rw [decide_eq_false h0, decide_eq_true (show a0 > 6 by omega)]; rfl
end Go.Proofs.YtmcdkmakjjlcnaaDoor.Pure
