/- The plain law of TimesOf. -/
import Derived.Test.YtmcdkmakjjlcnaaDoorTimTimesOf
import Derived.Test.YtmcdkmakjjlcnaaDoorTimLibT
namespace Go.Proofs.YtmcdkmakjjlcnaaDoor.Pure
open Go.RowKit Go.Eng Go.Proofs.YtmcdkmakjjlcnaaDoor.Tim
theorem TimesOf (a0 : Int × Int × Int × Int × Int × Int) (a1 : Bool) (w0 : ((Lit.int .i64 a0.1).wf = true ∧ ((Lit.int .u8 a0.2.1).wf = true ∧ ((Lit.int .u8 a0.2.2.1).wf = true ∧ ((Lit.int .u16 a0.2.2.2.1).wf = true ∧ ((Lit.int .i64 a0.2.2.2.2.1).wf = true ∧ (Lit.int .i64 a0.2.2.2.2.2).wf = true)))))) : ∃ K, charabanclaw10_TimesOf_3.f K a0.1 a0.2.1 a0.2.2.1 a0.2.2.2.1 a0.2.2.2.2.1 a0.2.2.2.2.2 a1 = some true := by
  obtain ⟨p, c, d, i, l, s⟩ := a0
  obtain ⟨_, wc, _⟩ := w0
  have hc : 0 ≤ c ∧ c ≤ 255 := u8_of wc
  refine ⟨1000, ?_⟩
  unfold charabanclaw10_TimesOf_3.f
  rw [awake_eq]
  simp only [Option.bind_some, Bool.not_true, cond_f]
  rw [(of_at hc d i l s a1).1, (of_at hc d i l s a1).2, (asks_at hc d i l s).1, (asks_at hc d i l s).2]
  simp
end Go.Proofs.YtmcdkmakjjlcnaaDoor.Pure
