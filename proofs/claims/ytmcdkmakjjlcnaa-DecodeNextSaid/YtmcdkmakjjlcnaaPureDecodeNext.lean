/- The plain law of DecodeNext. -/
import Derived.Test.YtmcdkmakjjlcnaaDecDecodeNext
import Derived.Test.YtmcdkmakjjlcnaaDecLibD
namespace Go.Proofs.Ytmcdkmakjjlcnaa.Pure
open Go.RowKit Go.Eng Go.Proofs.Ytmcdkmakjjlcnaa.Dec
theorem DecodeNext (a0 : List Int) (w0 : (a0.length * 1 ≤ 140737488351232 ∧ ∀ x ∈ a0, (Lit.int .u8 x).wf = true)) : ∃ K, charabanclaw08_DecodeNext_4.f K a0 = some true := by
  have hb : By a0 := fun x hx => u8_of (w0.2 x hx)
  refine ⟨1000, ?_⟩
  unfold charabanclaw08_DecodeNext_4.f
  rw [awake_eq]
  simp only [Option.bind_some, Bool.not_true, cond_f]
  by_cases hl : a0.length ≤ 300
  · rw [cond_no (by simp; omega), dec_next a0 hb (by omega), ref_next a0 hb (by omega), dec_all a0 hb (by omega), ref_all a0 hb (by omega)]
    have h := allF_len 900 a0 hb
    simp only [Option.bind_some, same_l _ (show (allF 900 a0).1.length ≤ 900 by omega)]
    simp
  · rw [cond_of (by simp; omega)]
end Go.Proofs.Ytmcdkmakjjlcnaa.Pure
