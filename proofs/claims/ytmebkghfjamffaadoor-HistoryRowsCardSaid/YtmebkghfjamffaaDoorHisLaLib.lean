/- The latch and the ports: what the told functions say. -/
import Derived.Test.YtmebkghfjamffaaDoorHis4
import Derived.Test.YtmebkghfjamffaaDoorEngPure
set_option linter.unusedVariables false
set_option linter.unusedSimpArgs false
namespace Go.Proofs.YtmebkghfjamffaaDoor.His
open Go.RowKit Go.Eng
def devsOk : Bool := (List.range 256).all fun p => match latch_Device_86.f 1000 (p : Int), charabancref20_Device_80.f 1000 (p : Int) with | some a, some b => a.1 == b.1 && a.2 == b.2 && decide (0 ≤ a.1) && decide (a.1 ≤ 6) && decide (0 ≤ a.2) && decide (a.2 ≤ 3) | _, _ => false
theorem devs : devsOk = true := by kernel_rfl
theorem dev_at {p : Int} (h : 0 ≤ p ∧ p ≤ 255) : ∃ d r, latch_Device_86.f 1000 p = some (d, r) ∧ charabancref20_Device_80.f 1000 p = some (d, r) ∧ 0 ≤ d ∧ d ≤ 6 ∧ 0 ≤ r ∧ r ≤ 3 := by
  have h1 := List.all_eq_true.1 devs p.toNat (List.mem_range.2 (by omega))
  rw [show ((p.toNat : Nat) : Int) = p by omega] at h1
  cases ha : latch_Device_86.f 1000 p with
  | none => simp [ha] at h1
  | some a =>
    cases hb : charabancref20_Device_80.f 1000 p with
    | none => simp [ha, hb] at h1
    | some b =>
      simp only [ha, hb, Bool.and_eq_true, beq_iff_eq, decide_eq_true_eq] at h1
      obtain ⟨⟨⟨⟨⟨h2, h3⟩, h4⟩, h5⟩, h6⟩, h7⟩ := h1
      exact ⟨a.1, a.2, rfl, by rw [show b = (a.1, a.2) from Prod.ext h2.symm h3.symm], h4, h5, h6, h7⟩
theorem wf_u8 {a : Int} (h : (Lit.int .u8 a).wf = true) : 0 ≤ a ∧ a ≤ 255 := by
  have h' : (decide (IntKind.u8.min ≤ a) && decide (a ≤ IntKind.u8.max)) = true := h
  simp only [Bool.and_eq_true, decide_eq_true_eq] at h'
  exact h'
end Go.Proofs.YtmebkghfjamffaaDoor.His
