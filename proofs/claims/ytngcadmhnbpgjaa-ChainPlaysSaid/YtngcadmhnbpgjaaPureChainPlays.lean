/- The plain law of ChainPlays. -/
import Derived.Test.YtngcadmhnbpgjaaChainChainPlays
import Derived.Test.YtngcadmhnbpgjaaChainLibB
set_option linter.unusedVariables false
set_option linter.unusedSimpArgs false
namespace Go.Proofs.Ytngcadmhnbpgjaa.Pure
open Go.RowKit Go.Eng Go.Proofs.Ytngcadmhnbpgjaa.Chain
theorem snoops_l0 (K : Nat) (p0 : List (Bool × Bool)) (p1 p2 : List Int) (t54 : List (Bool × Bool)) (t57 : List Int) (t60 : List (Bool × Bool)) (t63 : List Int) (hl : p2.length ≤ 1000) : ∀ (m k i : Nat) (s : Int), i + m = p2.length → m < k →
    charabanclaw26_ChainPlays_4.l0 K p0 p1 p2 t54 t57 t60 t63 k s (i : Int) = some (Lp.go ()) := by
  intro m
  induction m with
  | zero =>
    intro k i s hi hk
    obtain ⟨k, rfl⟩ : ∃ j, k = j + 1 := ⟨k - 1, by omega⟩
    rw [charabanclaw26_ChainPlays_4.l0, cond_no (by simp; omega)]
  | succ m ih =>
    intro k i s hi hk
    obtain ⟨k, rfl⟩ : ∃ j, k = j + 1 := ⟨k - 1, by omega⟩
    have hlt : i < p2.length := by omega
    rw [charabanclaw26_ChainPlays_4.l0, cond_of (by simp; omega), cond_of (inR_nat hlt), snoop_eq, rsnoop_eq, wrap_nat (by omega)]
    simp only [Option.bind_some, Let, bne_self_eq_false, cond_f]
    exact ih k (i + 1) _ (by omega) (by omega)
theorem ChainPlays (a0 : List (Bool × Bool)) (a1 : List Int) (a2 : List Int) (w0 : (a0.length * 2 ≤ 140737488351232 ∧ ∀ x ∈ a0, (True ∧ True))) (w1 : (a1.length * 8 ≤ 140737488351232 ∧ ∀ x ∈ a1, (Lit.int .i64 x).wf = true)) (w2 : (a2.length * 1 ≤ 140737488351232 ∧ ∀ x ∈ a2, (Lit.int .u8 x).wf = true)) : ∃ K, charabanclaw26_ChainPlays_4.f K a0 a1 a2 = some true := by
  refine ⟨400, ?_⟩
  unfold charabanclaw26_ChainPlays_4.f
  rw [awake_eq]
  simp only [Option.bind_some, Bool.not_true, cond_f, Let]
  by_cases h : (a0.length : Int) > 20
  · simp [h]
  rw [cond_no (c := decide ((a0.length : Int) > 20)) (by simp; omega)]
  by_cases h1 : (a1.length : Int) > 100
  · simp [h1]
  rw [cond_no (c := decide ((a1.length : Int) > 100)) (by simp; omega)]
  by_cases h2 : (a2.length : Int) > 300
  · simp [h2]
  rw [cond_no (c := decide ((a2.length : Int) > 300)) (by simp; omega)]
  have hl : a0.length ≤ 1000 := by omega
  have hK : a0.length < 400 := by omega
  have e1 := play_eq (K := 400) (l := a0) (acts := a1) (by omega) hl hK (by omega)
  have e2 := plain_eq hl hK
  have e3 := rplay_eq (K := 400) (l := a0) (acts := a1) (by omega) hl hK (by omega)
  have hp := plS_length a1 a0 []
  have ho := plS_out a1 a0 []
  simp only [List.length_nil, Nat.zero_add] at ho
  have e4 := plain_eq (K := 400) (l := (plS a1 a0 []).1) (by omega) (by omega)
  have e5 := same_eq (K := 400) (l := (plS a1 a0 []).1) (by omega) (by omega)
  have e6 := ints_eq (K := 400) (l := (plS a1 a0 []).2) (by omega) (by omega)
  have e7 := count_eq (K := 400) (l := a2) (by omega) (by omega)
  have e8 := rcount_eq (K := 400) (l := a2) (by omega) (by omega)
  have e9 := snoops_l0 400 a0 a1 a2 (plS a1 a0 []).1 (plS a1 a0 []).2 (plS a1 a0 []).1 (plS a1 a0 []).2 (by omega) a2.length 400 0 (Int.tmod (a1.length : Int) 4) (by omega) (by omega)
  simp only [Int.ofNat_zero] at e9
  simp only [e1, e2, e3, Option.bind_some]
  erw [e9]
  simp only [Option.bind_some, Lp.elim, e4, e5, e6, e7, e8, cond_t, beq_self_eq_true]
end Go.Proofs.Ytngcadmhnbpgjaa.Pure
