/- The plain law of ListingFinds. -/
import Derived.Test.YtbcepghanbkncaaGreatDoorLiFListingFinds
import Derived.Test.YtbcepghanbkncaaGreatDoorLiFFiLibC
set_option linter.unusedVariables false
namespace Go.Proofs.YtbcepghanbkncaaGreatDoor.Pure
open Go.RowKit Go.Eng Go.Proofs.YtbcepghanbkncaaGreatDoor.LiF
theorem u8w {x : Int} (h : (Lit.int .u8 x).wf = true) : 0 ≤ x ∧ x < 256 := by
  have : 0 ≤ x ∧ x ≤ 255 := by simpa [Lit.wf, IntKind.min, IntKind.max, IntKind.bits, IntKind.signed] using h
  omega
theorem u16w {x : Int} (h : (Lit.int .u16 x).wf = true) : 0 ≤ x ∧ x < 65536 := by
  have : 0 ≤ x ∧ x ≤ 65535 := by simpa [Lit.wf, IntKind.min, IntKind.max, IntKind.bits, IntKind.signed] using h
  omega
theorem ListingFinds (a0 : List (Int × Int)) (a1 : Int) (a2 : List Int) (w0 : (a0.length * 4 ≤ 140737488351232 ∧ ∀ x ∈ a0, ((Lit.int .u16 x.1).wf = true ∧ (Lit.int .u8 x.2).wf = true))) (w1 : (Lit.int .u16 a1).wf = true) (w2 : (a2.length * 1 ≤ 140737488351232 ∧ ∀ x ∈ a2, (Lit.int .u8 x).wf = true)) : ∃ K, charabanclaw34_ListingFinds_6.f K a0 a1 a2 = some true := by
  refine ⟨70000, ?_⟩
  unfold charabanclaw34_ListingFinds_6.f
  rw [Fi.awake, Option.bind_some, Bool.not_true, cond_f]
  simp only [Let]
  by_cases h1 : (a0.length : Int) > 60
  · rw [decide_eq_true h1, cond_t, cond_t]
  · rw [decide_eq_false h1, cond_f]
    by_cases h2 : (a2.length : Int) > 100
    · rw [decide_eq_true h2, cond_t]
    · rw [decide_eq_false h2, cond_f]
      have ha := u16w w1
      obtain ⟨a, rfl⟩ := Int.eq_ofNat_of_zero_le ha.1
      obtain ⟨⟨x, ok⟩, hf, hr, hd⟩ := Fi.finds (l := a0) (by omega) (fun p hp => u16w (w0.2 p hp).1) (fun p hp => u8w (w0.2 p hp).2) (a := a) (by omega) (b := a2) (fun x hx => u8w (w2.2 x hx)) (by omega)
      rw [hf, Option.bind_some, hr, Option.bind_some, beq_self_eq_true, cond_t, beq_self_eq_true, cond_t]
      cases ok with
      | false => rfl
      | true =>
        show (charabancref14_Dump_22.f 70000 a0 x (a2.length : Int)).bind _ = _
        rw [hd rfl, Option.bind_some, beq_self_eq_true]
end Go.Proofs.YtbcepghanbkncaaGreatDoor.Pure
