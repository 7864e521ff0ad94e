/- The plain law of CycleTicks. -/
import Derived.Test.YtajnhlkkbhobiaaDoorCycCycleTicks
import Derived.Test.YtajnhlkkbhobiaaDoorCycLibD
namespace Go.Proofs.YtajnhlkkbhobiaaDoor.Pure
open Go.RowKit Go.Eng Go.Proofs.YtajnhlkkbhobiaaDoor.Cyc
theorem CycleTicks (a0 : (Int × Int × Int × Int) × Int × Int) (a1 : Bool) (w0 : (((Lit.int .i64 a0.1.1).wf = true ∧ ((Lit.int .u16 a0.1.2.1).wf = true ∧ ((Lit.int .u8 a0.1.2.2.1).wf = true ∧ (Lit.int .i64 a0.1.2.2.2).wf = true))) ∧ ((Lit.int .i64 a0.2.1).wf = true ∧ (Lit.int .i64 a0.2.2).wf = true))) : ∃ K, charabanclaw17_CycleTicks_3.f K a0.1.1 a0.1.2.1 a0.1.2.2.1 a0.1.2.2.2 a0.2.1 a0.2.2 a1 = some true := by
  obtain ⟨⟨k, a, b, t⟩, n, w⟩ := a0
  refine ⟨1000, ?_⟩
  unfold charabanclaw17_CycleTicks_3.f
  rw [awake17]
  simp only [Option.bind_some, Bool.not_true, cond_f, charabanclaw17_plain_13.f]
  rw [(tick_at k a b t n w a1).1, (tick_at k a b t n w a1).2, (check_at k a b t).1, (check_at k a b t).2, (sample_at k).1, (sample_at k).2, (sample_at n).1, (sample_at n).2]
  simp
end Go.Proofs.YtajnhlkkbhobiaaDoor.Pure
