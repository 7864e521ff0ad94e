/- Instructions: the codes' fields, sizes and displacements, by looking at all of them. -/
import Derived.Test.YtbcepghanbkncaaGreatDoorLiT8
import Derived.Test.YtbcepghanbkncaaGreatDoorEngPure
set_option linter.unusedVariables false
set_option linter.unusedSimpArgs false
namespace Go.Proofs.YtbcepghanbkncaaGreatDoor.LiT.Dc
open Go.RowKit Go.Eng
def codeOk (p c : Int) : Bool :=
  match decode_Size_124.f 1000 p c, charabancref08_Size_84.f 1000 p c, decode_Near_122.f 1000 p c, charabancref08_Near_83.f 1000 p c with
  | some a, some b, some x, some y => a == b && decide (0 ≤ a) && decide (a ≤ 2) && (x == y)
  | _, _, _, _ => false
def codesOk : Bool := (List.range 7).all fun p => (List.range 256).all fun c => codeOk p c
theorem codes : codesOk = true := by kernel_rfl
def fieldsOk : Bool := (List.range 256).all fun c => match decode_Fields_24.f 1000 (c : Int), charabancref08_Fields_27.f 1000 (c : Int) with | some a, some b => a == b | _, _ => false
theorem fields : fieldsOk = true := by kernel_rfl
theorem code_at {p c : Int} (hc : 0 ≤ c ∧ c ≤ 255) : ∃ s n, decode_Size_124.f 1000 p c = some s ∧ charabancref08_Size_84.f 1000 p c = some s ∧ decode_Near_122.f 1000 p c = some n ∧ charabancref08_Near_83.f 1000 p c = some n ∧ 0 ≤ s ∧ s ≤ 2 ∧ (p < 0 ∨ 6 < p → s = 0 ∧ n = false) := by
  by_cases hp : 0 ≤ p ∧ p ≤ 6
  · have h1 := List.all_eq_true.1 (List.all_eq_true.1 codes p.toNat (List.mem_range.2 (by omega))) c.toNat (List.mem_range.2 (by omega))
    rw [show ((p.toNat : Nat) : Int) = p by omega, show ((c.toNat : Nat) : Int) = c by omega] at h1
    unfold codeOk at h1
    split at h1
    · rename_i a b x y h2 h3 h4 h5
      simp only [Bool.and_eq_true, beq_iff_eq, decide_eq_true_eq] at h1
      obtain ⟨⟨⟨rfl, h6⟩, h7⟩, rfl⟩ := h1
      exact ⟨a, x, h2, h3, h4, h5, h6, h7, fun h => by omega⟩
    · cases h1
  · have e0 : (p == 0) = false := by simp; omega
    have e1 : (p == 1) = false := by simp; omega
    have e2 : (p == 2) = false := by simp; omega
    have e3 : (p == 3) = false := by simp; omega
    have e4 : (p == 4) = false := by simp; omega
    have e5 : (p == 5) = false := by simp; omega
    have e6 : (p == 6) = false := by simp; omega
    have e7 : (p != 3) = true := by simp; omega
    have e8 : (p != 4) = true := by simp; omega
    exact ⟨0, false, by simp [decode_Size_124.f, decode_Fields_24.f, Let, e0, e2, e3, e4], by simp [charabancref08_Size_84.f, charabancref08_Fields_27.f, Let, e0, e2, e3, e4], by simp [decode_Near_122.f, decode_Fields_24.f, Let, e5, e6, e7, e8], by simp [charabancref08_Near_83.f, charabancref08_Fields_27.f, Let, e3, e4, e5, e6, e7, e8], by omega, by omega, fun _ => ⟨rfl, rfl⟩⟩
theorem field_at {c : Int} (hc : 0 ≤ c ∧ c ≤ 255) : ∃ u, decode_Fields_24.f 1000 c = some u ∧ charabancref08_Fields_27.f 1000 c = some u := by
  have h1 := List.all_eq_true.1 fields c.toNat (List.mem_range.2 (by omega))
  rw [show ((c.toNat : Nat) : Int) = c by omega] at h1
  split at h1
  · rename_i a b h2 h3
    exact ⟨a, h2, by rw [h3, eq_of_beq h1]⟩
  · cases h1
theorem u8_of {x : Int} (h : (Lit.int .u8 x).wf = true) : 0 ≤ x ∧ x ≤ 255 := by simpa [Lit.wf, IntKind.min, IntKind.max, IntKind.bits, IntKind.signed] using h
theorem u16_of {x : Int} (h : (Lit.int .u16 x).wf = true) : 0 ≤ x ∧ x ≤ 65535 := by simpa [Lit.wf, IntKind.min, IntKind.max, IntKind.bits, IntKind.signed] using h
end Go.Proofs.YtbcepghanbkncaaGreatDoor.LiT.Dc
