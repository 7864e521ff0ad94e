/- The plain law of BanksTell. -/
import Derived.Test.YtngcadmhnbpgjaaBanksBanksTell
import Derived.Test.YtngcadmhnbpgjaaBanksLibC
set_option linter.unusedVariables false
set_option linter.unusedSimpArgs false
namespace Go.Proofs.Ytngcadmhnbpgjaa.Pure
open Go.RowKit Go.Eng Go.Proofs.Ytngcadmhnbpgjaa.Banks
theorem BanksTell (a0 : List Int × Int × Int × (List (Int × Int))) (a1 : Int) (w0 : ((a0.1.length * 1 ≤ 140737488351232 ∧ ∀ x ∈ a0.1, (Lit.int .u8 x).wf = true) ∧ ((Lit.int .i64 a0.2.1).wf = true ∧ ((Lit.int .i64 a0.2.2.1).wf = true ∧ (a0.2.2.2.length * 16 ≤ 140737488351232 ∧ ∀ x ∈ a0.2.2.2, ((Lit.int .i64 x.1).wf = true ∧ (Lit.int .u8 x.2).wf = true)))))) (w1 : (Lit.int .u16 a1).wf = true) : ∃ K, charabanclaw19_BanksTell_6.f K a0.1 a0.2.1 a0.2.2.1 a0.2.2.2 a1 = some true := by
  refine ⟨500, ?_⟩
  unfold charabanclaw19_BanksTell_6.f
  rw [awake_eq]
  simp only [Option.bind_some, Bool.not_true, cond_f, few_eq]
  cases hf : (decide (a0.1.length ≤ 600) && decide (a0.2.2.2.length ≤ 60)) with
  | false => rfl
  | true =>
    simp only [Bool.and_eq_true, decide_eq_true_eq] at hf
    obtain ⟨at_, ram, hw, hlt⟩ := where_some 500 a0.1 a0.2.1 a0.2.2.1 a0.2.2.2 a1
    have hr : ∃ v, cond (!ram) (cond (inR a1 a0.1.length) (some (rdD a0.1 a1)) none) (some (rdS a0.2.2.2 at_)) = some v := by
      cases ram with
      | true => exact ⟨_, rfl⟩
      | false =>
        have h1 := hlt rfl
        have h2 := wf_u16 w1
        rw [wrap_i64 (by omega) (by omega)] at h1
        rw [Bool.not_false, cond_t, cond_of (inR_iff.2 ⟨h2.1, h1⟩)]
        exact ⟨_, rfl⟩
    obtain ⟨v, hv⟩ := hr
    have e1 := read_eq (K := 500) hw (by omega) (by omega)
    have e2 := rread_eq (K := 500) ((where_same 500 a0.1 a0.2.1 a0.2.2.1 a0.2.2.2 a1).trans hw) (by omega) (by omega)
    rw [hv] at e1 e2
    simp only [Bool.not_true, cond_f, hw, Option.bind_some, plain_eq (K := 500) (l := a0.2.2.2) (by omega) (by omega), where_same, beq_self_eq_true, cond_t, e1, e2, check_eq (K := 500) (r := a0.1) (n := a0.2.1) (bk := a0.2.2.1) (l := a0.2.2.2) (by omega) (by omega) (by omega), rcheck_eq (K := 500) (r := a0.1) (n := a0.2.1) (bk := a0.2.2.1) (l := a0.2.2.2) (by omega) (by omega)]
end Go.Proofs.Ytngcadmhnbpgjaa.Pure
