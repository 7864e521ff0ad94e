/- The plain law of TextShows. -/
import Derived.Test.YtilgjfckgkkfmaaDoorTexTextShows
import Derived.Test.YtilgjfckgkkfmaaDoorTexLibE
namespace Go.Proofs.YtilgjfckgkkfmaaDoor.Pure
open Go.RowKit Go.Eng Go.Proofs.YtilgjfckgkkfmaaDoor.Tex
theorem TextShows (a0 : Int × Int × Int × Int × Int × Int) (w0 : ((Lit.int .i64 a0.1).wf = true ∧ ((Lit.int .u8 a0.2.1).wf = true ∧ ((Lit.int .u8 a0.2.2.1).wf = true ∧ ((Lit.int .u16 a0.2.2.2.1).wf = true ∧ ((Lit.int .i64 a0.2.2.2.2.1).wf = true ∧ (Lit.int .i64 a0.2.2.2.2.2).wf = true)))))) : ∃ K, charabanclaw09_TextShows_7.f K a0.1 a0.2.1 a0.2.2.1 a0.2.2.2.1 a0.2.2.2.2.1 a0.2.2.2.2.2 = some true := by
  have hc := w8 w0.2.1
  have hd := w8 w0.2.2.1
  have hi := w16 w0.2.2.2.1
  refine ⟨1000, ?_⟩
  unfold charabanclaw09_TextShows_7.f
  rw [up, Option.bind_some, goShow hc hd hi, refShow hc hd hi, Option.bind_some, Option.bind_some, BEq.rfl]
  rfl
end Go.Proofs.YtilgjfckgkkfmaaDoor.Pure
