/- The plain law of ChainTells. -/
import Derived.Test.YtngcadmhnbpgjaaChainChainTells
import Derived.Test.YtngcadmhnbpgjaaChainLib
set_option linter.unusedVariables false
set_option linter.unusedSimpArgs false
namespace Go.Proofs.Ytngcadmhnbpgjaa.Pure
open Go.RowKit Go.Eng Go.Proofs.Ytngcadmhnbpgjaa.Chain
theorem bools_l0 (K : Nat) (p0 t132 t135 t138 t141 : List (Bool × Bool)) (l : List Bool) (hl : l.length ≤ 1000) : ∀ (m k i : Nat), i + m = l.length → m < k → charabanclaw26_ChainTells_3.l0 K p0 l l t132 t135 t138 t141 k (i : Int) = some (Lp.go ()) := by
  intro m
  induction m with
  | zero =>
    intro k i hi hk
    obtain ⟨k, rfl⟩ : ∃ j, k = j + 1 := ⟨k - 1, by omega⟩
    rw [charabanclaw26_ChainTells_3.l0, cond_no (by simp; omega)]
  | succ m ih =>
    intro k i hi hk
    obtain ⟨k, rfl⟩ : ∃ j, k = j + 1 := ⟨k - 1, by omega⟩
    have hlt : i < l.length := by omega
    rw [charabanclaw26_ChainTells_3.l0, cond_of (by simp; omega), cond_of (inR_nat hlt), cond_of (inR_nat hlt), cond_no (by simp), wrap_nat (by omega)]
    exact ih k (i + 1) (by omega) (by omega)
theorem ChainTells (a0 : List (Bool × Bool)) (w0 : (a0.length * 2 ≤ 140737488351232 ∧ ∀ x ∈ a0, (True ∧ True))) : ∃ K, charabanclaw26_ChainTells_3.f K a0 = some true := by
  refine ⟨400, ?_⟩
  unfold charabanclaw26_ChainTells_3.f
  rw [awake_eq]
  simp only [Option.bind_some, Bool.not_true, cond_f]
  by_cases h : (a0.length : Int) > 60
  · simp [h]
  rw [cond_no (by simp; omega)]
  have hl : a0.length ≤ 1000 := by omega
  have hK : a0.length < 400 := by omega
  have e1 := en_eq hl hK
  have e2 := plain_eq hl hK
  have e3 := ren_eq hl hK
  have e4 := ack_eq hl hK
  have e5 := rack_eq hl hK
  have e6 := reti_eq hl hK
  have e7 := rreti_eq hl hK
  have e8 := gr_eq hl hK
  have e9 := rgr_eq hl hK
  have ha : (acS a0).1.length = a0.length := acS_length a0
  have hr : (reS a0).1.length = a0.length := reS_length a0
  have e10 := plain_eq (K := 400) (l := (acS a0).1) (by omega) (by omega)
  have e11 := plain_eq (K := 400) (l := (reS a0).1) (by omega) (by omega)
  have e12 := same_eq (K := 400) (l := (acS a0).1) (by omega) (by omega)
  have e13 := same_eq (K := 400) (l := (reS a0).1) (by omega) (by omega)
  have e14 := bools_l0 400 a0 (acS a0).1 (acS a0).1 (reS a0).1 (reS a0).1 (enS a0) (by rw [enS_length]; omega) (enS a0).length 400 0 (by omega) (by rw [enS_length]; omega)
  simp only [Int.ofNat_zero] at e14
  simp only [e1, e2, e3, e4, e5, e6, e7, e8, e9, Option.bind_some, Let, bne_self_eq_false, cond_f]
  erw [e14]
  simp only [Option.bind_some, Lp.elim, e10, e11, e12, e13, cond_t]
end Go.Proofs.Ytngcadmhnbpgjaa.Pure
