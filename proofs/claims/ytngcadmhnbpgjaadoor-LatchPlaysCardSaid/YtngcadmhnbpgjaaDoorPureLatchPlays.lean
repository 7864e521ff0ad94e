/- The plain law of LatchPlays. -/
import Derived.Test.YtngcadmhnbpgjaaDoorLatchLatchPlays
import Derived.Test.YtngcadmhnbpgjaaDoorLatchLibB
set_option linter.unusedVariables false
set_option linter.unusedSimpArgs false
namespace Go.Proofs.YtngcadmhnbpgjaaDoor.Pure
open Go.RowKit Go.Eng Go.Proofs.YtngcadmhnbpgjaaDoor.Latch
theorem LatchPlays (a0 : Bool × Int) (a1 : List Int) (a2 : Int) (w0 : (True ∧ (Lit.int .i64 a0.2).wf = true)) (w1 : (a1.length * 8 ≤ 140737488351232 ∧ ∀ x ∈ a1, (Lit.int .i64 x).wf = true)) (w2 : (Lit.int .u8 a2).wf = true) : ∃ K, charabanclaw20_LatchPlays_4.f K a0.1 a0.2 a1 a2 = some true := by
  refine ⟨300, ?_⟩
  obtain ⟨s, b⟩ := a0
  simp only
  unfold charabanclaw20_LatchPlays_4.f
  rw [awake_eq]
  simp only [Option.bind_some, Bool.not_true, cond_f]
  by_cases h : (a1.length : Int) > 200
  · simp [h]
  rw [cond_no (c := decide ((a1.length : Int) > 200)) (decide_eq_false h)]
  have e1 := play_eq (K := 300) (s := s) (b := b) (l := a1) (by omega) (by omega)
  have e2 := rplay_eq (K := 300) (s := s) (b := b) (l := a1) (by omega) (by omega)
  have e3 : latch_Read_14.f 300 s b (IntKind.wrap .i64 a2) = charabancref20_Read_15.f 300 s b (IntKind.wrap .i64 a2) := rfl
  have e4 : latch_Write_16.f 300 s b a2 = charabancref20_Write_17.f 300 s b a2 := by
    unfold latch_Write_16.f charabancref20_Write_17.f
    rw [even_at (wf_u8 w2)]
  obtain ⟨x, e5⟩ : ∃ x, charabancref20_Read_15.f 300 s b (IntKind.wrap .i64 a2) = some x := by
    unfold charabancref20_Read_15.f
    cases s <;> exact ⟨_, rfl⟩
  obtain ⟨y, e6⟩ : ∃ y, charabancref20_Write_17.f 300 s b a2 = some y := by
    unfold charabancref20_Write_17.f
    cases (Int.tmod a2 2 == 0) <;> exact ⟨_, rfl⟩
  simp only [e1, e2, e3, e4, e5, e6, charabanclaw20_plain_13.f, Option.bind_some, beq_self_eq_true, Bool.and_self, cond_t]
end Go.Proofs.YtngcadmhnbpgjaaDoor.Pure
