/- The plain law of TimesAll. -/
import Derived.Test.YtmcdkmakjjlcnaaDoorTimTimesAll
import Derived.Test.YtmcdkmakjjlcnaaDoorTimLibT
namespace Go.Proofs.YtmcdkmakjjlcnaaDoor.Pure
open Go.RowKit Go.Eng Go.Proofs.YtmcdkmakjjlcnaaDoor.Tim
theorem codes_l (b : List Int) (p : Int) : ∀ (k i : Nat), i ≤ 256 → 256 - i < k → charabanclaw10_TimesAll_4.l0 1000 b p k (i : Int) = some (Lp.go ())
  | 0, i, h1, h2 => by omega
  | k + 1, i, h1, h2 => by
    rw [charabanclaw10_TimesAll_4.l0]
    by_cases hi : i < 256
    · have hw : IntKind.wrap .u8 (i : Int) = i := by rw [IntKind.wrap_u8]; omega
      have hc : 0 ≤ (i : Int) ∧ (i : Int) ≤ 255 := by omega
      rw [decide_eq_true (show (i : Int) < 256 by omega), cond_t, hw, (of_at hc 0 0 0 0 false).1, (of_at hc 0 0 0 0 false).2, (of_at hc 0 0 0 0 true).1, (of_at hc 0 0 0 0 true).2]
      simp only [Option.bind_some, Let, bne_self_eq_false, cond_f]
      rw [wrap_nat (by omega)]
      exact codes_l b p k (i + 1) (by omega) (by omega)
    · rw [decide_eq_false (by omega), cond_f]
theorem TimesAll (a0 : List Int) (a1 : Int) (w0 : (a0.length * 1 ≤ 140737488351232 ∧ ∀ x ∈ a0, (Lit.int .u8 x).wf = true)) (w1 : (Lit.int .i64 a1).wf = true) : ∃ K, charabanclaw10_TimesAll_4.f K a0 a1 = some true := by
  have hb : By a0 := fun x hx => u8_of (w0.2 x hx)
  refine ⟨1000, ?_⟩
  unfold charabanclaw10_TimesAll_4.f
  rw [awake_eq]
  simp only [Option.bind_some, Bool.not_true, cond_f]
  by_cases hl : a0.length ≤ 300
  · have h := codes_l a0 a1 1000 0 (by omega) (by omega)
    simp only [Int.ofNat_zero] at h
    rw [cond_no (by simp; omega)]
    erw [h]
    simp only [Option.bind_some, Lp.elim]
    rw [(all_at a0 hb (by omega)).1, (all_at a0 hb (by omega)).2, table_eq]
    simp only [Option.bind_some, beq_self_eq_true, cond_t]
    have ht : times_Table_15.f 1000 = some tab_0 := rfl
    have hn : Nat.beq tab_0.length 256 = true := by kernel_rfl
    rw [ht]
    simp only [Option.bind_some, hn, Bool.and_self, cond_t, beq_self_eq_true]
  · rw [cond_of (by simp; omega)]
end Go.Proofs.YtmcdkmakjjlcnaaDoor.Pure
