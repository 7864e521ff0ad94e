/- The plain law of BanksWrite. -/
import Derived.Test.YtngcadmhnbpgjaaBanksBanksWrite
import Derived.Test.YtngcadmhnbpgjaaBanksLibB
set_option linter.unusedVariables false
set_option linter.unusedSimpArgs false
namespace Go.Proofs.Ytngcadmhnbpgjaa.Pure
open Go.RowKit Go.Eng Go.Proofs.Ytngcadmhnbpgjaa.Banks
theorem BanksWrite (a0 : List Int × Int × Int × (List (Int × Int))) (a1 : Int) (a2 : Int) (w0 : ((a0.1.length * 1 ≤ 140737488351232 ∧ ∀ x ∈ a0.1, (Lit.int .u8 x).wf = true) ∧ ((Lit.int .i64 a0.2.1).wf = true ∧ ((Lit.int .i64 a0.2.2.1).wf = true ∧ (a0.2.2.2.length * 16 ≤ 140737488351232 ∧ ∀ x ∈ a0.2.2.2, ((Lit.int .i64 x.1).wf = true ∧ (Lit.int .u8 x.2).wf = true)))))) (w1 : (Lit.int .u16 a1).wf = true) (w2 : (Lit.int .u8 a2).wf = true) : ∃ K, charabanclaw19_BanksWrite_7.f K a0.1 a0.2.1 a0.2.2.1 a0.2.2.2 a1 a2 = some true := by
  refine ⟨500, ?_⟩
  unfold charabanclaw19_BanksWrite_7.f
  rw [awake_eq]
  simp only [Option.bind_some, Bool.not_true, cond_f, few_eq]
  cases hf : (decide (a0.1.length ≤ 600) && decide (a0.2.2.2.length ≤ 60)) with
  | false => rfl
  | true =>
    simp only [Bool.and_eq_true, decide_eq_true_eq] at hf
    obtain ⟨at_, ram, hw, _⟩ := where_some 500 a0.1 a0.2.1 a0.2.2.1 a0.2.2.2 a1
    have hp := ptS_length a0.2.2.2 at_ a2
    have hl : (cond ram (ptS a0.2.2.2 at_ a2) a0.2.2.2).length ≤ 61 := by cases ram <;> simp <;> omega
    simp only [Bool.not_true, cond_f, write_eq hw (b := a2) (by omega) (by omega), Option.bind_some, plain_eq (K := 500) (l := cond ram (ptS a0.2.2.2 at_ a2) a0.2.2.2) (by omega) (by omega), plain_eq (K := 500) (l := a0.2.2.2) (by omega) (by omega), rwrite_eq hw (b := a2) (by omega) (by omega),
      same_eq (K := 500) (l := cond ram (ptS a0.2.2.2 at_ a2) a0.2.2.2) (by omega) (by omega), cond_t, select_eq, rselect_eq, same_eq (K := 500) (l := a0.2.2.2) (by omega) (by omega)]
end Go.Proofs.Ytngcadmhnbpgjaa.Pure
