/- The plain law of TimesPlanes. -/
import Derived.Test.YtmcdkmakjjlcnaaDoorTimTimesPlanes
import Derived.Test.YtmcdkmakjjlcnaaDoorTimLibT
namespace Go.Proofs.YtmcdkmakjjlcnaaDoor.Pure
open Go.RowKit Go.Eng Go.Proofs.YtmcdkmakjjlcnaaDoor.Tim
def planesOk : Bool := (List.range 256).all fun c => [true, false].all fun t => charabanclaw10_TimesPlanes_6.f 1000 (c : Int) t == some true
theorem planes : planesOk = true := by kernel_rfl
theorem TimesPlanes (a0 : Int) (a1 : Bool) (w0 : (Lit.int .u8 a0).wf = true) : ∃ K, charabanclaw10_TimesPlanes_6.f K a0 a1 = some true := by
  have hc : 0 ≤ a0 ∧ a0 ≤ 255 := u8_of w0
  have h1 := List.all_eq_true.1 (List.all_eq_true.1 planes a0.toNat (List.mem_range.2 (by omega))) a1 (by cases a1 <;> simp)
  rw [show ((a0.toNat : Nat) : Int) = a0 by omega] at h1
  exact ⟨1000, by simpa using h1⟩
end Go.Proofs.YtmcdkmakjjlcnaaDoor.Pure
