/- The plain law of LatchPorts. -/
import Derived.Test.YtngcadmhnbpgjaaDoorLatchLatchPorts
import Derived.Test.YtngcadmhnbpgjaaDoorLatchLib
set_option linter.unusedVariables false
set_option linter.unusedSimpArgs false
namespace Go.Proofs.YtngcadmhnbpgjaaDoor.Pure
open Go.RowKit Go.Eng Go.Proofs.YtngcadmhnbpgjaaDoor.Latch
theorem LatchPorts (a0 : Int) (a1 : Int) (a2 : Int) (w0 : (Lit.int .u8 a0).wf = true) (w1 : (Lit.int .i64 a1).wf = true) (w2 : (Lit.int .i64 a2).wf = true) : ∃ K, charabanclaw20_LatchPorts_3.f K a0 a1 a2 = some true := by
  refine ⟨300, ?_⟩
  unfold charabanclaw20_LatchPorts_3.f
  obtain ⟨d, r, h1, h2, _⟩ := dev_at (wf_u8 w0)
  obtain ⟨p, b, h3, h4⟩ := port_same a1 a2
  rw [awake_eq]
  simp only [Option.bind_some, Bool.not_true, cond_f, h1, h2, h3, h4, beq_self_eq_true, cond_t]
end Go.Proofs.YtngcadmhnbpgjaaDoor.Pure
