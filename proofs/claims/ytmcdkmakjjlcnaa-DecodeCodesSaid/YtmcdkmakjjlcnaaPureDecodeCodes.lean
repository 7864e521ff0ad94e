/- The plain law of DecodeCodes. -/
import Derived.Test.YtmcdkmakjjlcnaaDecDecodeCodes
import Derived.Test.YtmcdkmakjjlcnaaDecLib
namespace Go.Proofs.Ytmcdkmakjjlcnaa.Pure
open Go.RowKit Go.Eng Go.Proofs.Ytmcdkmakjjlcnaa.Dec
theorem DecodeCodes (a0 : Int) (a1 : Int) (w0 : (Lit.int .i64 a0).wf = true) (w1 : (Lit.int .u8 a1).wf = true) : ∃ K, charabanclaw08_DecodeCodes_3.f K a0 a1 = some true := by
  obtain ⟨s, n, h1, h2, h3, h4, _, _, _⟩ := code_at (p := a0) (u8_of w1)
  obtain ⟨u, h5, h6⟩ := field_at (u8_of w1)
  refine ⟨1000, ?_⟩
  unfold charabanclaw08_DecodeCodes_3.f
  rw [awake_eq, h1, h2, h3, h4, h5, h6]
  simp
end Go.Proofs.Ytmcdkmakjjlcnaa.Pure
