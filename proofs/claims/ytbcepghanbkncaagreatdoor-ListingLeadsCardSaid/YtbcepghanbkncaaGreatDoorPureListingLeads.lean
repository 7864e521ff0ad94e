/- The plain law of ListingLeads. -/
import Derived.Test.YtbcepghanbkncaaGreatDoorLiTListingLeads
import Derived.Test.YtbcepghanbkncaaGreatDoorLiTLeLibB
import Derived.Test.YtbcepghanbkncaaGreatDoorLiTFiLibC
set_option linter.unusedVariables false
namespace Go.Proofs.YtbcepghanbkncaaGreatDoor.Pure
open Go.RowKit Go.Eng Go.Proofs.YtbcepghanbkncaaGreatDoor.LiT
theorem u8w {x : Int} (h : (Lit.int .u8 x).wf = true) : 0 ≤ x ∧ x < 256 := by
  have : 0 ≤ x ∧ x ≤ 255 := by simpa [Lit.wf, IntKind.min, IntKind.max, IntKind.bits, IntKind.signed] using h
  omega
theorem u16w {x : Int} (h : (Lit.int .u16 x).wf = true) : 0 ≤ x ∧ x < 65536 := by
  have : 0 ≤ x ∧ x ≤ 65535 := by simpa [Lit.wf, IntKind.min, IntKind.max, IntKind.bits, IntKind.signed] using h
  omega
theorem ListingLeads (a0 : List (Int × Int)) (a1 : Int) (a2 : Int × Int × Int × Int × Int × Int) (w0 : (a0.length * 4 ≤ 140737488351232 ∧ ∀ x ∈ a0, ((Lit.int .u16 x.1).wf = true ∧ (Lit.int .u8 x.2).wf = true))) (w1 : (Lit.int .u16 a1).wf = true) (w2 : ((Lit.int .i64 a2.1).wf = true ∧ ((Lit.int .u8 a2.2.1).wf = true ∧ ((Lit.int .u8 a2.2.2.1).wf = true ∧ ((Lit.int .u16 a2.2.2.2.1).wf = true ∧ ((Lit.int .i64 a2.2.2.2.2.1).wf = true ∧ (Lit.int .i64 a2.2.2.2.2.2).wf = true)))))) : ∃ K, charabanclaw34_ListingLeads_3.f K a0 a1 a2.1 a2.2.1 a2.2.2.1 a2.2.2.2.1 a2.2.2.2.2.1 a2.2.2.2.2.2 = some true := by
  refine ⟨1000, ?_⟩
  unfold charabanclaw34_ListingLeads_3.f
  rw [Fi.awake, Option.bind_some, Bool.not_true, cond_f]
  by_cases h1 : (a0.length : Int) > 60
  · rw [decide_eq_true h1, cond_t]
  · obtain ⟨t, f, g1, g2⟩ := Le.target_eq (u8w w2.2.1) (u16w w2.2.2.2.1) a2.1 a2.2.2.1 a2.2.2.2.2.1 a2.2.2.2.2.2 a1
    obtain ⟨ts, h2, h3, h4, h5⟩ := Le.targets (l := a0) ⟨by omega, fun p hp => u16w (w0.2 p hp).1, fun p hp => u8w (w0.2 p hp).2⟩ (u16w w1)
    rw [decide_eq_false h1, cond_f, g1, Option.bind_some, g2, Option.bind_some, h2, Option.bind_some, show (1 : Int) = ((1 : Nat) : Int) from rfl, Le.rising h4 h5 _ 1000 1 rfl (by omega) (by omega) (by omega), Option.bind_some]
    show cond (t == t) _ _ = _
    rw [beq_self_eq_true, cond_t, beq_self_eq_true, cond_t, h3, Option.bind_some, Le.words_self h4]; rfl
end Go.Proofs.YtbcepghanbkncaaGreatDoor.Pure
