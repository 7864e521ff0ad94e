/- All instructions of bytes: both tellings are one plain function. -/
import Derived.Test.YtbcepghanbkncaaGreatDoorLiTDcLibC
set_option linter.unusedVariables false
set_option linter.unusedSimpArgs false
set_option maxHeartbeats 4000000
namespace Go.Proofs.YtbcepghanbkncaaGreatDoor.LiT.Dc
open Go.RowKit Go.Eng
def isN (b : List Int) : Bool := (Nx b).2.2.2.2.2.2
def lenN (b : List Int) : Nat := (Nx b).2.2.2.2.1.toNat
theorem fin_len {p c d n skip : Int} {t : List Int} {fl : Bool} (hn : 1 ≤ n) (hs : 0 ≤ sz p c) (h : (fin p c d n skip t fl).2.2.2.2.2.2 = true) :
    1 ≤ (fin p c d n skip t fl).2.2.2.2.1 ∧ (fin p c d n skip t fl).2.2.2.2.1 = n + sz p c ∧ fl = true ∧ sz p c ≤ t.length := by
  unfold fin at h ⊢
  split at h
  · rename_i hc
    rw [if_pos hc]
    simp only [Bool.and_eq_true, decide_eq_true_eq] at hc
    exact ⟨by show 1 ≤ n + sz p c; omega, rfl, hc.1, hc.2⟩
  · cases h
theorem len_of_fl1 {r : List Int} (h : (!r.isEmpty) = true) : 1 ≤ r.length := by rw [fl1] at h; simpa using h
theorem len_of_fl2 {r : List Int} (h : (!r.isEmpty && !r.tail.isEmpty) = true) : 2 ≤ r.length := by rw [fl2] at h; simpa using h
theorem len_of_fl3 {r : List Int} (h : (!r.isEmpty && !r.tail.isEmpty && !r.tail.tail.isEmpty) = true) : 3 ≤ r.length := by rw [fl3] at h; simpa using h
theorem Nx_len {b : List Int} (hb : By b) (h : isN b = true) : 1 ≤ (Nx b).2.2.2.2.1 ∧ (Nx b).2.2.2.2.1 ≤ b.length := by
  have hr : By (restP b) := by rw [rest_eq]; exact hb.drop _
  have h0 := hr.head
  have h1 := hr.tail.head
  have h2 := hr.tail.tail.head
  have hcn := cnt_le b
  have hlr : (restP b).length + cntP b = b.length := by rw [rest_eq]; simp; omega
  have s0 := fun p => (sz_at (p := p) h0).2.2.1
  have s1 := fun p => (sz_at (p := p) h1).2.2.1
  have s2 := fun p => (sz_at (p := p) h2).2.2.1
  unfold isN at h
  unfold Nx at h ⊢
  split at h
  · rename_i c1
    rw [if_pos c1]
    obtain ⟨g1, g2, g3, g4⟩ := fin_len (by omega) (s1 _) h
    have := len_of_fl2 g3
    simp only [List.length_tail] at g4
    exact ⟨g1, by rw [g2]; omega⟩
  · rename_i c1
    rw [if_neg c1]
    split at h
    · rename_i c2
      rw [if_pos c2]
      split at h
      · rename_i c3
        rw [if_pos c3]
        obtain ⟨g1, g2, g3, g4⟩ := fin_len (by omega) (s1 _) h
        have := len_of_fl2 g3
        simp only [List.length_tail] at g4
        exact ⟨g1, by rw [g2]; omega⟩
      · rename_i c3
        rw [if_neg c3]
        obtain ⟨g1, g2, g3, g4⟩ := fin_len (by omega) (s2 _) h
        have := len_of_fl3 g3
        simp only [List.length_tail] at g4
        exact ⟨g1, by rw [g2]; omega⟩
    · rename_i c2
      rw [if_neg c2]
      split at h
      · rename_i c3
        rw [if_pos c3]
        obtain ⟨g1, g2, g3, g4⟩ := fin_len (by omega) (s0 _) h
        have := len_of_fl1 g3
        simp only [List.length_tail] at g4
        exact ⟨g1, by rw [g2]; omega⟩
      · rename_i c3
        rw [if_neg c3]
        split at h
        · rename_i c4
          rw [if_pos c4]
          obtain ⟨g1, g2, g3, g4⟩ := fin_len (by omega) (s0 _) h
          have := len_of_fl2 g3
          simp only [List.length_tail] at g4
          exact ⟨g1, by rw [g2]; omega⟩
        · rename_i c4
          rw [if_neg c4]
          obtain ⟨g1, g2, g3, g4⟩ := fin_len (by omega) (s0 _) h
          have := len_of_fl1 g3
          simp only [List.length_tail] at g4
          exact ⟨g1, by rw [g2]; omega⟩
theorem lenN_of {b : List Int} (hb : By b) (h : isN b = true) : ((lenN b : Nat) : Int) = (Nx b).2.2.2.2.1 ∧ 1 ≤ lenN b ∧ lenN b ≤ b.length := by
  obtain ⟨h1, h2⟩ := Nx_len hb h
  unfold lenN
  omega
end Go.Proofs.YtbcepghanbkncaaGreatDoor.LiT.Dc
