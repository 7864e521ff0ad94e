/- The plain law of ListingLines. -/
import Derived.Test.YtbcepghanbkncaaGreatDoorLiLListingLines
import Derived.Test.YtbcepghanbkncaaGreatDoorLiLStLibR
import Derived.Test.YtbcepghanbkncaaGreatDoorLiLFiLibC
set_option linter.unusedVariables false
namespace Go.Proofs.YtbcepghanbkncaaGreatDoor.Pure
open Go.RowKit Go.Eng Go.Proofs.YtbcepghanbkncaaGreatDoor.LiL
theorem u8w {x : Int} (h : (Lit.int .u8 x).wf = true) : 0 ≤ x ∧ x < 256 := by
  have : 0 ≤ x ∧ x ≤ 255 := by simpa [Lit.wf, IntKind.min, IntKind.max, IntKind.bits, IntKind.signed] using h
  omega
theorem u16w {x : Int} (h : (Lit.int .u16 x).wf = true) : 0 ≤ x ∧ x < 65536 := by
  have : 0 ≤ x ∧ x ≤ 65535 := by simpa [Lit.wf, IntKind.min, IntKind.max, IntKind.bits, IntKind.signed] using h
  omega
theorem ListingLines (a0 : List (Int × Int)) (a1 : Int) (a2 : Int) (w0 : (a0.length * 4 ≤ 140737488351232 ∧ ∀ x ∈ a0, ((Lit.int .u16 x.1).wf = true ∧ (Lit.int .u8 x.2).wf = true))) (w1 : (Lit.int .u16 a1).wf = true) (w2 : (Lit.int .i64 a2).wf = true) : ∃ K, charabanclaw34_ListingLines_5.f K a0 a1 a2 = some true := by
  refine ⟨1000, ?_⟩
  unfold charabanclaw34_ListingLines_5.f
  rw [Fi.awake, Option.bind_some, Bool.not_true, cond_f]
  simp only [Let]
  by_cases h1 : (a0.length : Int) > 60
  · rw [decide_eq_true h1, cond_t, cond_t]
  · rw [decide_eq_false h1, cond_f]
    by_cases h2 : a2 > 30
    · rw [decide_eq_true h2, cond_t]
    · rw [decide_eq_false h2, cond_f]
      exact St.lines_eq ⟨by omega, fun p hp => u16w (w0.2 p hp).1, fun p hp => u8w (w0.2 p hp).2⟩ (u16w w1) a2
end Go.Proofs.YtbcepghanbkncaaGreatDoor.Pure
