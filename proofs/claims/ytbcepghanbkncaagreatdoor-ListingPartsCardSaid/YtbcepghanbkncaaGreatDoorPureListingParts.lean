/- The plain law of ListingParts. -/
import Derived.Test.YtbcepghanbkncaaGreatDoorLiPListingParts
import Derived.Test.YtbcepghanbkncaaGreatDoorLiPStLibP
import Derived.Test.YtbcepghanbkncaaGreatDoorLiPFiLibC
set_option linter.unusedVariables false
namespace Go.Proofs.YtbcepghanbkncaaGreatDoor.Pure
open Go.RowKit Go.Eng Go.Proofs.YtbcepghanbkncaaGreatDoor.LiP
theorem u8w {x : Int} (h : (Lit.int .u8 x).wf = true) : 0 ≤ x ∧ x < 256 := by
  have : 0 ≤ x ∧ x ≤ 255 := by simpa [Lit.wf, IntKind.min, IntKind.max, IntKind.bits, IntKind.signed] using h
  omega
theorem u16w {x : Int} (h : (Lit.int .u16 x).wf = true) : 0 ≤ x ∧ x < 65536 := by
  have : 0 ≤ x ∧ x ≤ 65535 := by simpa [Lit.wf, IntKind.min, IntKind.max, IntKind.bits, IntKind.signed] using h
  omega
theorem ListingParts (a0 : List (Int × Int)) (a1 : Int) (a2 : Int) (w0 : (a0.length * 4 ≤ 140737488351232 ∧ ∀ x ∈ a0, ((Lit.int .u16 x.1).wf = true ∧ (Lit.int .u8 x.2).wf = true))) (w1 : (Lit.int .i64 a1).wf = true) (w2 : (Lit.int .i64 a2).wf = true) : ∃ K, charabanclaw34_ListingParts_4.f K a0 a1 a2 = some true := by
  refine ⟨1000, ?_⟩
  unfold charabanclaw34_ListingParts_4.f
  rw [Fi.awake, Option.bind_some, Bool.not_true, cond_f]
  by_cases h1 : (a0.length : Int) > 60
  · rw [decide_eq_true h1, cond_t]
  · rw [decide_eq_false h1, cond_f]
    exact St.parts_eq ⟨by omega, fun p hp => u16w (w0.2 p hp).1, fun p hp => u8w (w0.2 p hp).2⟩ a1 a2
end Go.Proofs.YtbcepghanbkncaaGreatDoor.Pure
