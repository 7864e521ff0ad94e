/- The plain law of HistoryTells. -/
import Derived.Test.YtmebkghfjamffaaDoorHisHistoryTells
import Derived.Test.YtmebkghfjamffaaDoorHisLibF
set_option maxHeartbeats 4000000
set_option linter.unusedVariables false
namespace Go.Proofs.YtmebkghfjamffaaDoor.Pure
open Go.RowKit Go.Eng Go.Proofs.YtmebkghfjamffaaDoor.His
theorem u16w {x : Int} (h : (Lit.int .u16 x).wf = true) : 0 ≤ x ∧ x ≤ 65535 := by simpa [Lit.wf, IntKind.min, IntKind.max, IntKind.bits, IntKind.signed] using h
theorem i64w {x : Int} (h : (Lit.int .i64 x).wf = true) : i64 x := by simpa [i64, Lit.wf, IntKind.min, IntKind.max, IntKind.bits, IntKind.signed] using h
theorem HistoryTells (a0 : List Int × Int × Int × (List (Int × Int))) (a1 : List (Int × Int × Int × Int × Int × Int)) (w0 : ((a0.1.length * 1 ≤ 140737488351232 ∧ ∀ x ∈ a0.1, (Lit.int .u8 x).wf = true) ∧ ((Lit.int .i64 a0.2.1).wf = true ∧ ((Lit.int .i64 a0.2.2.1).wf = true ∧ (a0.2.2.2.length * 16 ≤ 140737488351232 ∧ ∀ x ∈ a0.2.2.2, ((Lit.int .i64 x.1).wf = true ∧ (Lit.int .u8 x.2).wf = true)))))) (w1 : (a1.length * 48 ≤ 140737488351232 ∧ ∀ x ∈ a1, ((Lit.int .i64 x.1).wf = true ∧ ((Lit.int .i64 x.2.1).wf = true ∧ ((Lit.int .i64 x.2.2.1).wf = true ∧ ((Lit.int .u16 x.2.2.2.1).wf = true ∧ ((Lit.int .i64 x.2.2.2.2.1).wf = true ∧ (Lit.int .u8 x.2.2.2.2.2).wf = true))))))) : ∃ K, charabanclaw29_HistoryTells_3.f K a0.1 a0.2.1 a0.2.2.1 a0.2.2.2 a1 = some true := by
  obtain ⟨r, n, b, l⟩ := a0
  have hE : ∀ e ∈ a1, okE e := fun e he => u16w (w1.2 e he).2.2.2.1
  refine ⟨1000, ?_⟩
  unfold charabanclaw29_HistoryTells_3.f
  rw [awake29]
  simp only [Option.bind_some, Bool.not_true, cond_f]
  have hf : charabanclaw29_few_10.f 1000 r n b l = some (decide (r.length ≤ 600) && decide (l.length ≤ 60)) := by
    unfold charabanclaw29_few_10.f
    by_cases h1 : r.length ≤ 600
    · rw [decide_eq_true (show (r.length : Int) ≤ 600 by omega), decide_eq_true h1, cond_t, Bool.true_and]
      by_cases h2 : l.length ≤ 60
      · rw [decide_eq_true (show (l.length : Int) ≤ 60 by omega), decide_eq_true h2]
      · rw [decide_eq_false (show ¬ (l.length : Int) ≤ 60 by omega), decide_eq_false h2]
    · rw [decide_eq_false (show ¬ (r.length : Int) ≤ 600 by omega), decide_eq_false h1]; rfl
  rw [hf, Option.bind_some]
  simp only [Let]
  by_cases hs : (decide (r.length ≤ 600) && decide (l.length ≤ 60)) = true
  · rw [hs, Bool.not_true, cond_f]
    simp only [Bool.and_eq_true, decide_eq_true_eq] at hs
    obtain ⟨hr, hl⟩ := hs
    by_cases hq : a1.length ≤ 100
    · rw [decide_eq_false (by omega), cond_f, store_at r n b l (by omega)]
      simp only [Option.bind_some]
      obtain ⟨s', b1, b2, b3⟩ := behind_l (r, n, b, l) a1 hq hE 1000 (r, n, b, l) 0 (by omega) (by omega) (by simp; omega)
      have c1 : history_Behind_16.f 1000 r n b l a1 = some s' := by
        unfold history_Behind_16.f
        unfold BH at b1
        erw [b1]
        rfl
      have c2 : charabancref29_Behind_11.f 1000 r n b l a1 = some s' := by
        unfold charabancref29_Behind_11.f
        unfold BQ at b2
        erw [b2]
        rfl
      have c3 : ∃ v, history_Legal_13.f 1000 r n b l a1 = some v ∧ charabancref29_Legal_14.f 1000 r n b l a1 = some v := by
        unfold history_Legal_13.f charabancref29_Legal_14.f
        rcases legal_l (r, n, b, l) a1 hq hE 1000 (r, n, b, l) 0 (by omega) (by omega) (by simp; omega) with ⟨j, z, d1, d2⟩ | ⟨z, d1, d2⟩
        · unfold LH at d1
          unfold LQ at d2
          erw [d1, d2]
          exact ⟨_, rfl, rfl⟩
        · unfold LH at d1
          unfold LQ at d2
          erw [d1, d2]
          exact ⟨_, rfl, rfl⟩
      obtain ⟨v, c4, c5⟩ := c3
      rw [c1, c2, c4, c5]
      simp only [Option.bind_some, beq_self_eq_true, cond_t]
      rw [store_at _ _ _ _ (by omega)]
      simp only [Option.bind_some]
      rw [same_eq (by omega) (by omega)]
      rfl
    · rw [decide_eq_true (by omega), cond_t]
  · rw [show (decide (r.length ≤ 600) && decide (l.length ≤ 60)) = false by simpa using hs, Bool.not_false, cond_t, cond_t]
end Go.Proofs.YtmebkghfjamffaaDoor.Pure
