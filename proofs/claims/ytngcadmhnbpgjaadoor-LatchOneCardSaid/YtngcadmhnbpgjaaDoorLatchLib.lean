/- The latch and the ports: what the told functions say. -/
import Derived.Test.YtngcadmhnbpgjaaDoorLatch
import Derived.Test.YtngcadmhnbpgjaaDoorEngPure
set_option linter.unusedVariables false
set_option linter.unusedSimpArgs false
namespace Go.Proofs.YtngcadmhnbpgjaaDoor.Latch
open Go.RowKit Go.Eng
theorem awake_eq : charabanclaw20_awake_6.f 300 = some true := by kernel_rfl
def devsOk : Bool := (List.range 256).all fun p => match latch_Device_7.f 300 (p : Int), charabancref20_Device_8.f 300 (p : Int) with | some a, some b => a.1 == b.1 && a.2 == b.2 && decide (0 ≤ a.1) && decide (a.1 ≤ 6) && decide (0 ≤ a.2) && decide (a.2 ≤ 3) | _, _ => false
theorem devs : devsOk = true := by kernel_rfl
theorem dev_at {p : Int} (h : 0 ≤ p ∧ p ≤ 255) : ∃ d r, latch_Device_7.f 300 p = some (d, r) ∧ charabancref20_Device_8.f 300 p = some (d, r) ∧ 0 ≤ d ∧ d ≤ 6 ∧ 0 ≤ r ∧ r ≤ 3 := by
  have h1 := List.all_eq_true.1 devs p.toNat (List.mem_range.2 (by omega))
  rw [show ((p.toNat : Nat) : Int) = p by omega] at h1
  cases ha : latch_Device_7.f 300 p with
  | none => simp [ha] at h1
  | some a =>
    cases hb : charabancref20_Device_8.f 300 p with
    | none => simp [ha, hb] at h1
    | some b =>
      simp only [ha, hb, Bool.and_eq_true, beq_iff_eq, decide_eq_true_eq] at h1
      obtain ⟨⟨⟨⟨⟨h2, h3⟩, h4⟩, h5⟩, h6⟩, h7⟩ := h1
      exact ⟨a.1, a.2, rfl, by rw [show b = (a.1, a.2) from Prod.ext h2.symm h3.symm], h4, h5, h6, h7⟩
def portsOk : Bool := (List.range 7).all fun d => (List.range 4).all fun r => match latch_Port_9.f 300 (d : Int) (r : Int), charabancref20_Port_10.f 300 (d : Int) (r : Int) with | some a, some b => a.1 == b.1 && a.2 == b.2 | _, _ => false
theorem ports : portsOk = true := by kernel_rfl
theorem port_none {d r : Int} (h : d < 0 ∨ 6 < d ∨ r < 0 ∨ 3 < r) : charabancref20_Port_10.f 300 d r = some (0, false) := by
  unfold charabancref20_Port_10.f
  have h1 := searchI (fun k t => charabancref20_Port_10.l0 300 d r k t) 256 (fun _ => false) (0 : Int) (fun k => by
    show charabancref20_Port_10.l0 300 d r (k + 1) _ = _
    rw [charabancref20_Port_10.l0, cond_no (by decide)]) (fun k i hi => by
    show charabancref20_Port_10.l0 300 d r (k + 1) _ = _
    have hw : IntKind.wrap .u8 (i : Int) = (i : Int) := by rw [IntKind.wrap_u8]; omega
    obtain ⟨a, b, _, h2, h3, h4, h5, h6⟩ := dev_at (p := (i : Int)) (by omega)
    rw [charabancref20_Port_10.l0, cond_of (by simp; omega), hw, h2, wrap_nat (by omega)]
    simp only [Option.bind_some, Let]
    by_cases e1 : a = d
    · have e2 : ¬ b = r := by omega
      rw [cond_of (by simpa using e1), cond_no (by simpa using e2)]
      rfl
    · rw [cond_no (by simpa using e1)]
      rfl) 256 300 0 (by omega) (by omega)
  simp only [Int.ofNat_zero] at h1
  erw [h1]
  simp [Lp.elim]
theorem pport_none {d r : Int} (h : d < 0 ∨ 6 < d ∨ r < 0 ∨ 3 < r) : latch_Port_9.f 300 d r = some (0, false) := by
  unfold latch_Port_9.f Let
  dsimp only
  by_cases h1 : d < 0
  · simp [h1]
  by_cases h2 : d ≥ 7
  · simp [h1, h2]
  by_cases h3 : r < 0
  · simp [h1, h2, h3]
  rw [cond_no (decide_eq_false h1), cond_no (decide_eq_false h2), cond_no (decide_eq_false h3), cond_of (inR_iff.2 ⟨by omega, by omega⟩)]
  have h4 : (rdD tab_0 d).2 ≤ 4 := by
    have : d = 0 ∨ d = 1 ∨ d = 2 ∨ d = 3 ∨ d = 4 ∨ d = 5 ∨ d = 6 := by omega
    rcases this with rfl | rfl | rfl | rfl | rfl | rfl | rfl <;> decide
  rw [decide_eq_true (show r ≥ (rdD tab_0 d).2 by omega)]
  rfl
theorem port_same (d r : Int) : ∃ a b, latch_Port_9.f 300 d r = some (a, b) ∧ charabancref20_Port_10.f 300 d r = some (a, b) := by
  by_cases h : d < 0 ∨ 6 < d ∨ r < 0 ∨ 3 < r
  · exact ⟨0, false, pport_none h, port_none h⟩
  · have h1 := List.all_eq_true.1 (List.all_eq_true.1 ports d.toNat (List.mem_range.2 (by omega))) r.toNat (List.mem_range.2 (by omega))
    rw [show ((d.toNat : Nat) : Int) = d by omega, show ((r.toNat : Nat) : Int) = r by omega] at h1
    cases ha : latch_Port_9.f 300 d r with
    | none => simp [ha] at h1
    | some a =>
      cases hb : charabancref20_Port_10.f 300 d r with
      | none => simp [ha, hb] at h1
      | some b =>
        simp only [ha, hb, Bool.and_eq_true, beq_iff_eq] at h1
        exact ⟨a.1, a.2, rfl, by rw [show b = (a.1, a.2) from Prod.ext h1.1.symm h1.2.symm]⟩
theorem wf_u8 {a : Int} (h : (Lit.int .u8 a).wf = true) : 0 ≤ a ∧ a ≤ 255 := by
  have h' : (decide (IntKind.u8.min ≤ a) && decide (a ≤ IntKind.u8.max)) = true := h
  simp only [Bool.and_eq_true, decide_eq_true_eq] at h'
  exact h'
end Go.Proofs.YtngcadmhnbpgjaaDoor.Latch
