/- The plain law of CycleTakes. -/
import Derived.Test.YtajnhlkkbhobiaaDoorCycCycleTakes
import Derived.Test.YtajnhlkkbhobiaaDoorCycLibD
namespace Go.Proofs.YtajnhlkkbhobiaaDoor.Pure
open Go.RowKit Go.Eng Go.Proofs.YtajnhlkkbhobiaaDoor.Cyc
theorem CycleTakes (a0 : Int × Int × Int × Int) (a1 : List Bool) (w0 : ((Lit.int .i64 a0.1).wf = true ∧ ((Lit.int .u16 a0.2.1).wf = true ∧ ((Lit.int .u8 a0.2.2.1).wf = true ∧ (Lit.int .i64 a0.2.2.2).wf = true)))) (w1 : (a1.length * 1 ≤ 140737488351232 ∧ ∀ x ∈ a1, True)) : ∃ K, charabanclaw17_CycleTakes_4.f K a0.1 a0.2.1 a0.2.2.1 a0.2.2.2 a1 = some true := by
  obtain ⟨k, a, b, t⟩ := a0
  refine ⟨1000, ?_⟩
  unfold charabanclaw17_CycleTakes_4.f
  rw [awake17]
  simp only [Option.bind_some, Bool.not_true, cond_f]
  by_cases hl : a1.length ≤ 100
  · rw [cond_no (by simp; omega)]
    by_cases ho : okC k t
    · obtain ⟨l, h1, h2, h3, h4, h5⟩ := all_at (k := k) (a := a) (b := b) (t := t) (ws := a1) (by omega) ho
      have h6 := hd_le k a1
      have h7 := ho.2.2.2
      rw [h1, h2, h3, h4]
      simp only [Option.bind_some, beq_self_eq_true, cond_t]
      rw [same_at l (by omega)]
      rfl
    · obtain ⟨h1, h2, h3, h4⟩ := none_at (k := k) (a := a) (b := b) (t := t) (ws := a1) ho
      rw [h1, h2, h3, h4]
      simp only [Option.bind_some, beq_self_eq_true, cond_t]
      rw [same_at [] (by simp)]
      rfl
  · rw [cond_of (by simp; omega)]
end Go.Proofs.YtajnhlkkbhobiaaDoor.Pure
