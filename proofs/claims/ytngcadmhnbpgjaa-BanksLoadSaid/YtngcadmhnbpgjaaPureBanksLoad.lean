/- The plain law of BanksLoad. -/
import Derived.Test.YtngcadmhnbpgjaaBanksBanksLoad
import Derived.Test.YtngcadmhnbpgjaaBanksLibB
set_option linter.unusedVariables false
set_option linter.unusedSimpArgs false
namespace Go.Proofs.Ytngcadmhnbpgjaa.Pure
open Go.RowKit Go.Eng Go.Proofs.Ytngcadmhnbpgjaa.Banks
theorem BanksLoad (a0 : List Int × Int × Int × (List (Int × Int))) (a1 : Int) (a2 : List Int) (w0 : ((a0.1.length * 1 ≤ 140737488351232 ∧ ∀ x ∈ a0.1, (Lit.int .u8 x).wf = true) ∧ ((Lit.int .i64 a0.2.1).wf = true ∧ ((Lit.int .i64 a0.2.2.1).wf = true ∧ (a0.2.2.2.length * 16 ≤ 140737488351232 ∧ ∀ x ∈ a0.2.2.2, ((Lit.int .i64 x.1).wf = true ∧ (Lit.int .u8 x.2).wf = true)))))) (w1 : (Lit.int .i64 a1).wf = true) (w2 : (a2.length * 1 ≤ 140737488351232 ∧ ∀ x ∈ a2, (Lit.int .u8 x).wf = true)) : ∃ K, charabanclaw19_BanksLoad_8.f K a0.1 a0.2.1 a0.2.2.1 a0.2.2.2 a1 a2 = some true := by
  refine ⟨500, ?_⟩
  unfold charabanclaw19_BanksLoad_8.f
  rw [awake_eq]
  simp only [Option.bind_some, Bool.not_true, cond_f, few_eq, Let]
  cases hf : (decide (a0.1.length ≤ 600) && decide (a0.2.2.2.length ≤ 60)) with
  | false => rfl
  | true =>
    simp only [Bool.and_eq_true, decide_eq_true_eq] at hf
    simp only [Bool.not_true, cond_f]
    by_cases h1 : (a2.length : Int) > 60
    · simp [h1]
    rw [cond_no (c := decide ((a2.length : Int) > 60)) (decide_eq_false h1)]
    by_cases h2 : a1 > 1000000000
    · simp [h2]
    rw [cond_no (c := decide (a1 > 1000000000)) (decide_eq_false h2)]
    have hp := ldS_length a1 a2 0 a0.2.2.2
    simp only [load_eq (K := 500) (r := a0.1) (n := a0.2.1) (bk := a0.2.2.1) (l := a0.2.2.2) (p := a1) (bs := a2) (by omega) (by omega) (by omega), rload_eq (K := 500) (r := a0.1) (n := a0.2.1) (bk := a0.2.2.1) (l := a0.2.2.2) (p := a1) (bs := a2) (by omega) (by omega) (by omega), Option.bind_some,
      plain_eq (K := 500) (l := ldS a1 a2 0 a0.2.2.2) (by omega) (by omega), plain_eq (K := 500) (l := a0.2.2.2) (by omega) (by omega), same_eq (K := 500) (l := ldS a1 a2 0 a0.2.2.2) (by omega) (by omega)]
end Go.Proofs.Ytngcadmhnbpgjaa.Pure
