/- All instructions of bytes: both tellings are one plain function. -/
import Derived.Test.YtmcdkmakjjlcnaaDoorTimLibC
set_option linter.unusedVariables false
set_option linter.unusedSimpArgs false
set_option maxHeartbeats 4000000
namespace Go.Proofs.YtmcdkmakjjlcnaaDoor.Tim
open Go.RowKit Go.Eng
abbrev Op6 : Type := Int × Int × Int × Int × Int × Int
def isN (b : List Int) : Bool := (Nx b).2.2.2.2.2.2
def lenN (b : List Int) : Nat := (Nx b).2.2.2.2.1.toNat
def opN (b : List Int) : Op6 := ((Nx b).1, (Nx b).2.1, (Nx b).2.2.1, (Nx b).2.2.2.1, (Nx b).2.2.2.2.1, (Nx b).2.2.2.2.2.1)
theorem fin_len {p c d n skip : Int} {t : List Int} {fl : Bool} (hn : 1 ≤ n) (hs : 0 ≤ sz p c) (h : (fin p c d n skip t fl).2.2.2.2.2.2 = true) :
    1 ≤ (fin p c d n skip t fl).2.2.2.2.1 ∧ (fin p c d n skip t fl).2.2.2.2.1 = n + sz p c ∧ fl = true ∧ sz p c ≤ t.length := by
  unfold fin at h ⊢
  split at h
  · rename_i hc
    rw [if_pos hc]
    simp only [Bool.and_eq_true, decide_eq_true_eq] at hc
    exact ⟨by show 1 ≤ n + sz p c; omega, rfl, hc.1, hc.2⟩
  · cases h
theorem len_of_fl1 {r : List Int} (h : (!r.isEmpty) = true) : 1 ≤ r.length := by rw [fl1] at h; simpa using h
theorem len_of_fl2 {r : List Int} (h : (!r.isEmpty && !r.tail.isEmpty) = true) : 2 ≤ r.length := by rw [fl2] at h; simpa using h
theorem len_of_fl3 {r : List Int} (h : (!r.isEmpty && !r.tail.isEmpty && !r.tail.tail.isEmpty) = true) : 3 ≤ r.length := by rw [fl3] at h; simpa using h
theorem Nx_len {b : List Int} (hb : By b) (h : isN b = true) : 1 ≤ (Nx b).2.2.2.2.1 ∧ (Nx b).2.2.2.2.1 ≤ b.length := by
  have hr : By (restP b) := by rw [rest_eq]; exact hb.drop _
  have h0 := hr.head
  have h1 := hr.tail.head
  have h2 := hr.tail.tail.head
  have hcn := cnt_le b
  have hlr : (restP b).length + cntP b = b.length := by rw [rest_eq]; simp; omega
  have s0 := fun p => (sz_at (p := p) h0).2.2.1
  have s1 := fun p => (sz_at (p := p) h1).2.2.1
  have s2 := fun p => (sz_at (p := p) h2).2.2.1
  unfold isN at h
  unfold Nx at h ⊢
  split at h
  · rename_i c1
    rw [if_pos c1]
    obtain ⟨g1, g2, g3, g4⟩ := fin_len (by omega) (s1 _) h
    have := len_of_fl2 g3
    simp only [List.length_tail] at g4
    exact ⟨g1, by rw [g2]; omega⟩
  · rename_i c1
    rw [if_neg c1]
    split at h
    · rename_i c2
      rw [if_pos c2]
      split at h
      · rename_i c3
        rw [if_pos c3]
        obtain ⟨g1, g2, g3, g4⟩ := fin_len (by omega) (s1 _) h
        have := len_of_fl2 g3
        simp only [List.length_tail] at g4
        exact ⟨g1, by rw [g2]; omega⟩
      · rename_i c3
        rw [if_neg c3]
        obtain ⟨g1, g2, g3, g4⟩ := fin_len (by omega) (s2 _) h
        have := len_of_fl3 g3
        simp only [List.length_tail] at g4
        exact ⟨g1, by rw [g2]; omega⟩
    · rename_i c2
      rw [if_neg c2]
      split at h
      · rename_i c3
        rw [if_pos c3]
        obtain ⟨g1, g2, g3, g4⟩ := fin_len (by omega) (s0 _) h
        have := len_of_fl1 g3
        simp only [List.length_tail] at g4
        exact ⟨g1, by rw [g2]; omega⟩
      · rename_i c3
        rw [if_neg c3]
        split at h
        · rename_i c4
          rw [if_pos c4]
          obtain ⟨g1, g2, g3, g4⟩ := fin_len (by omega) (s0 _) h
          have := len_of_fl2 g3
          simp only [List.length_tail] at g4
          exact ⟨g1, by rw [g2]; omega⟩
        · rename_i c4
          rw [if_neg c4]
          obtain ⟨g1, g2, g3, g4⟩ := fin_len (by omega) (s0 _) h
          have := len_of_fl1 g3
          simp only [List.length_tail] at g4
          exact ⟨g1, by rw [g2]; omega⟩
theorem lenN_of {b : List Int} (hb : By b) (h : isN b = true) : ((lenN b : Nat) : Int) = (Nx b).2.2.2.2.1 ∧ 1 ≤ lenN b ∧ lenN b ≤ b.length := by
  obtain ⟨h1, h2⟩ := Nx_len hb h
  unfold lenN
  omega
/-- All instructions, and what is left. -/
def allF : Nat → List Int → List Op6 × List Int
  | 0, b => ([], b)
  | m + 1, b => if isN b = true then (opN b :: (allF m (b.drop (lenN b))).1, (allF m (b.drop (lenN b))).2) else ([], b)
theorem isN_nil : isN [] = false := by kernel_rfl
theorem allF_len : ∀ (m : Nat) (b : List Int), By b → (allF m b).1.length + (allF m b).2.length ≤ b.length
  | 0, b, hb => by simp [allF]
  | m + 1, b, hb => by
    simp only [allF]
    split
    · rename_i h
      obtain ⟨_, h2, h3⟩ := lenN_of hb h
      have := allF_len m (b.drop (lenN b)) (hb.drop _)
      simp at this ⊢
      omega
    · simp
theorem cut_drop (b : List Int) (n : Nat) : cutL b (n : Int) (b.length : Int) = b.drop n := by simp [cutL, List.take_of_length_le]
theorem dec_all_l (p0 : List Int) : ∀ (m : Nat) (b : List Int) (k : Nat) (out : List Op6), b.length ≤ m → m < k → By b → b.length ≤ 900 → out.length + b.length ≤ 2000 →
    ∃ z, decode_All_27.l0 1000 p0 k out (b.length : Int) b = some (out ++ (allF m b).1, ((allF m b).2.length : Int), z)
  | m, b, 0, out, h1, h2, hb, h3, h4 => by omega
  | 0, b, k + 1, out, h1, h2, hb, h3, h4 => by
    have : b = [] := List.eq_nil_of_length_eq_zero (by omega)
    subst this
    refine ⟨[], ?_⟩
    rw [decode_All_27.l0, dec_next [] hb (by simp)]
    have hn := isN_nil
    unfold isN at hn
    simp only [Option.bind_some, Let, hn, Bool.not_false, cond_t, allF, List.append_nil]
  | m + 1, b, k + 1, out, h1, h2, hb, h3, h4 => by
    rw [decode_All_27.l0, dec_next b hb h3]
    simp only [Option.bind_some, Let, allF]
    cases hn : isN b with
    | false =>
      have hn' := hn
      unfold isN at hn'
      refine ⟨b, ?_⟩
      simp only [hn', Bool.not_false, cond_t, Bool.false_eq_true, if_false, List.append_nil]
    | true =>
      have hn' := hn
      unfold isN at hn'
      obtain ⟨g1, g2, g3⟩ := lenN_of hb hn
      simp only [hn', Bool.not_true, cond_f, if_true]
      rw [cond_of (mayBe_of (by simp; omega) (by simp; omega)), ← g1, cond_of (cutR_of (by omega) (by omega) (by omega)), cut_drop, wrap_i64 (by omega) (by omega)]
      have hl : ((b.length : Nat) : Int) - (lenN b : Int) = ((b.drop (lenN b)).length : Int) := by simp; omega
      rw [hl]
      obtain ⟨z, hz⟩ := dec_all_l p0 m (b.drop (lenN b)) k (out ++ [opN b]) (by simp; omega) (by omega) (hb.drop _) (by simp; omega) (by simp; omega)
      refine ⟨z, ?_⟩
      have ho : opN b = ((Nx b).1, (Nx b).2.1, (Nx b).2.2.1, (Nx b).2.2.2.1, (lenN b : Int), (Nx b).2.2.2.2.2.1) := by unfold opN; rw [g1]
      rw [← ho, hz]
      simp
theorem dec_all (b : List Int) (hb : By b) (hl : b.length ≤ 900) : decode_All_27.f 1000 b = some ((allF 900 b).1, ((allF 900 b).2.length : Int)) := by
  unfold decode_All_27.f
  obtain ⟨z, hz⟩ := dec_all_l b 900 b 1000 [] hl (by omega) hb hl (by simp; omega)
  rw [hz]
  simp
theorem ref_all_l (p0 : List Int) : ∀ (m : Nat) (b : List Int) (k : Nat) (out : List Op6), b.length ≤ m → m < k → By b → b.length ≤ 900 → out.length + b.length ≤ 2000 →
    charabancref08_All_17.l0 1000 p0 k b out = some (out ++ (allF m b).1, ((allF m b).2.length : Int))
  | m, b, 0, out, h1, h2, hb, h3, h4 => by omega
  | 0, b, k + 1, out, h1, h2, hb, h3, h4 => by
    have : b = [] := List.eq_nil_of_length_eq_zero (by omega)
    subst this
    rw [charabancref08_All_17.l0, ref_next [] hb (by simp)]
    have hn := isN_nil
    unfold isN at hn
    simp only [Option.bind_some, hn, Bool.not_false, cond_t, allF, List.append_nil]
  | m + 1, b, k + 1, out, h1, h2, hb, h3, h4 => by
    rw [charabancref08_All_17.l0, ref_next b hb h3]
    simp only [Option.bind_some, allF]
    cases hn : isN b with
    | false =>
      have hn' := hn
      unfold isN at hn'
      simp only [hn', Bool.not_false, cond_t, Bool.false_eq_true, if_false, List.append_nil]
    | true =>
      have hn' := hn
      unfold isN at hn'
      obtain ⟨g1, g2, g3⟩ := lenN_of hb hn
      simp only [hn', Bool.not_true, cond_f, if_true]
      rw [cond_of (mayBe_of (by simp; omega) (by simp; omega)), ← g1, cond_of (cutR_of (by omega) (by omega) (by omega)), cut_drop]
      have ho : opN b = ((Nx b).1, (Nx b).2.1, (Nx b).2.2.1, (Nx b).2.2.2.1, (lenN b : Int), (Nx b).2.2.2.2.2.1) := by unfold opN; rw [g1]
      rw [← ho, ref_all_l p0 m (b.drop (lenN b)) k (out ++ [opN b]) (by simp; omega) (by omega) (hb.drop _) (by simp; omega) (by simp; omega)]
      simp
theorem ref_all (b : List Int) (hb : By b) (hl : b.length ≤ 900) : charabancref08_All_17.f 1000 b = some ((allF 900 b).1, ((allF 900 b).2.length : Int)) := by
  unfold charabancref08_All_17.f
  rw [ref_all_l b 900 b 1000 [] hl (by omega) hb hl (by simp; omega)]
  simp
end Go.Proofs.YtmcdkmakjjlcnaaDoor.Tim
