/- The plain law of LatchOne. -/
import Derived.Test.YtngcadmhnbpgjaaDoorLatchLatchOne
import Derived.Test.YtngcadmhnbpgjaaDoorLatchLibB
set_option linter.unusedVariables false
set_option linter.unusedSimpArgs false
namespace Go.Proofs.YtngcadmhnbpgjaaDoor.Pure
open Go.RowKit Go.Eng Go.Proofs.YtngcadmhnbpgjaaDoor.Latch
theorem one_l0 (l : List Int) (hl : l.length ≤ 200) : ∀ (m k i : Nat) (o : Int), i + m = l.length → m < k → 0 ≤ o → charabanclaw20_LatchOne_5.l0 300 l k (o != 0) o o (i : Int) = some (Lp.go ()) := by
  intro m
  induction m with
  | zero =>
    intro k i o hi hk ho
    obtain ⟨k, rfl⟩ : ∃ j, k = j + 1 := ⟨k - 1, by omega⟩
    rw [charabanclaw20_LatchOne_5.l0, cond_no (by simp; omega)]
  | succ m ih =>
    intro k i o hi hk ho
    obtain ⟨k, rfl⟩ : ∃ j, k = j + 1 := ⟨k - 1, by omega⟩
    have hlt : i < l.length := by omega
    have hcut : cutL l (i : Int) ((i + 1 : Nat) : Int) = [l[i]] := by
      simp only [cutL, Int.toNat_natCast]
      rw [List.take_succ_eq_append_getElem hlt, List.drop_append_of_le_length (by simp; omega), List.drop_of_length_le (by simp; omega)]
      rfl
    have hp := play_eq (K := 300) (s := (o != 0)) (b := o) (l := [l[i]]) (by simp) (by simp)
    simp only [List.foldl_cons, List.foldl_nil] at hp
    rw [charabanclaw20_LatchOne_5.l0, cond_of (by simp; omega), wrap_nat (by omega), cond_of (cutR_of (by omega) (by omega) (by omega)), hcut, hp]
    simp only [Let, Option.bind_some, cond_of (inR_nat hlt), rdD_nat l hlt]
    have h255 : ∀ y : Int, ((([y] : List Int).length : Int) != 1) = false := fun _ => rfl
    have hin : ∀ y : Int, inR 0 ([y] : List Int).length = true := fun _ => rfl
    have hrd : ∀ y : Int, rdD ([y] : List Int) 0 = y := fun _ => rfl
    unfold stL
    by_cases h0 : l[i] = 0
    · have := ih k (i + 1) 0 (by omega) (by omega) (by omega)
      simp only [h0, beq_self_eq_true, cond_t, if_true, bne_self_eq_false, cond_f]
      exact this
    · have h0' : (l[i] == 0) = false := by simpa using h0
      by_cases h1 : l[i] < 0
      · have := ih k (i + 1) o (by omega) (by omega) ho
        simp only [h0', h0, h1, if_true, if_false, cond_f, decide_eq_false (show ¬ l[i] > 0 by omega), bne_self_eq_false]
        exact this
      · simp only [h0', h0, h1, if_false, cond_f, decide_eq_true (show l[i] > 0 by omega), cond_t, List.nil_append]
        by_cases h2 : o = 0
        · have := ih k (i + 1) l[i] (by omega) (by omega) (by omega)
          have hb : (l[i] != 0) = true := by simpa using h0
          rw [hb] at this
          subst h2
          simp only [beq_self_eq_true, cond_t, bne_self_eq_false, Bool.false_eq_true, if_false, h255, cond_f, hin, hrd, hb]
          exact this
        · have := ih k (i + 1) o (by omega) (by omega) ho
          have hb : (o != 0) = true := by simpa using h2
          have hb' : (o == 0) = false := by simpa using h2
          rw [hb] at this
          simp only [hb', cond_f, hb, if_true, h255, hin, cond_t, hrd, bne_self_eq_false]
          exact this
theorem LatchOne (a0 : List Int) (w0 : (a0.length * 8 ≤ 140737488351232 ∧ ∀ x ∈ a0, (Lit.int .i64 x).wf = true)) : ∃ K, charabanclaw20_LatchOne_5.f K a0 = some true := by
  refine ⟨300, ?_⟩
  unfold charabanclaw20_LatchOne_5.f
  rw [awake_eq]
  simp only [Option.bind_some, Bool.not_true, cond_f]
  by_cases h : (a0.length : Int) > 200
  · simp [h]
  rw [cond_no (c := decide ((a0.length : Int) > 200)) (decide_eq_false h)]
  have := one_l0 a0 (by omega) a0.length 300 0 0 (by omega) (by omega) (by omega)
  simp only [bne_self_eq_false, Int.ofNat_zero] at this
  erw [this]
  rfl
end Go.Proofs.YtngcadmhnbpgjaaDoor.Pure
