/- The plain law of DecodeSums. -/
import Derived.Test.YtmcdkmakjjlcnaaDecDecodeSums
import Derived.Test.YtmcdkmakjjlcnaaDecLibD
namespace Go.Proofs.Ytmcdkmakjjlcnaa.Pure
open Go.RowKit Go.Eng Go.Proofs.Ytmcdkmakjjlcnaa.Dec
theorem sums_l (b : List Int) (hb : By b) (hl : b.length ≤ 300) (l : List Op6) (q : Int) (hll : l.length ≤ 300) : ∀ (m k at_ i : Nat), l.drop i = (allF m (b.drop at_)).1 → b.length - at_ ≤ m → at_ ≤ b.length → i ≤ l.length → l.length - i < k →
    ∃ z : Nat, charabanclaw08_DecodeSums_7.l0 1000 b l q k (at_ : Int) (i : Int) = some (Lp.go (z : Int)) ∧ z + (allF m (b.drop at_)).2.length = b.length ∧ z ≤ b.length ∧ isN (b.drop z) = false
  | m, 0, at_, i, h1, h2, h3, h4, h5 => by omega
  | 0, k + 1, at_, i, h1, h2, h3, h4, h5 => by
    have h6 : i = l.length := by
      have := congrArg List.length h1
      simp [allF] at this
      omega
    have h7 : b.drop at_ = [] := List.drop_of_length_le (by omega)
    refine ⟨at_, ?_, ?_, h3, ?_⟩
    · rw [charabanclaw08_DecodeSums_7.l0, cond_no (by simp; omega)]
    · rw [h7]; simp [allF]; omega
    · rw [h7]; exact isN_nil
  | m + 1, k + 1, at_, i, h1, h2, h3, h4, h5 => by
    have hbd := hb.drop at_
    have hd := dec_next (b.drop at_) hbd (by simp; omega)
    rw [charabanclaw08_DecodeSums_7.l0]
    cases hn : isN (b.drop at_) with
    | false =>
      have h6 : i = l.length := by
        have := congrArg List.length h1
        simp [allF, hn] at this
        omega
      refine ⟨at_, ?_, ?_, h3, hn⟩
      · rw [cond_no (by simp; omega)]
      · simp [allF, hn]; omega
    | true =>
      simp only [allF, hn, if_true] at h1
      have hi : i < l.length := by
        have := congrArg List.length h1
        simp at this
        omega
      have h6 : l[i] = opN (b.drop at_) := by rw [drop_at hi] at h1; exact (List.cons.inj h1).1
      have h7 : l.drop (i + 1) = (allF m ((b.drop at_).drop (lenN (b.drop at_)))).1 := by rw [drop_at hi] at h1; exact (List.cons.inj h1).2
      obtain ⟨g1, g2, g3⟩ := lenN_of hbd hn
      simp only [List.length_drop] at g3
      rw [List.drop_drop] at h7
      obtain ⟨z, z1, z2, z3, z4⟩ := sums_l b hb hl l q hll m k (at_ + lenN (b.drop at_)) (i + 1) h7 (by omega) (by omega) (by omega) (by omega)
      refine ⟨z, ?_, ?_, z3, z4⟩
      · rw [cond_of (by simpa using hi), cond_of (cutR_of (by omega) (by omega) (by omega)), cut_drop, hd]
        have hn' := hn
        unfold isN at hn'
        simp only [Option.bind_some, Let, hn', Bool.not_true, cond_f]
        rw [cond_of (inR_nat hi), rdD_nat l hi, h6]
        simp only [opN, beq_self_eq_true, Bool.and_self, Bool.not_true, cond_f]
        rw [decide_eq_false (show ¬ (Nx (b.drop at_)).2.2.2.2.1 < 1 by omega), cond_f, ← g1, wrap_nat (by omega), wrap_i64 (by omega) (by omega)]
        rw [show (at_ : Int) + (lenN (b.drop at_) : Int) = ((at_ + lenN (b.drop at_) : Nat) : Int) by omega]
        exact z1
      · simp only [allF, hn, if_true, List.drop_drop]
        exact z2
theorem DecodeSums (a0 : List Int) (w0 : (a0.length * 1 ≤ 140737488351232 ∧ ∀ x ∈ a0, (Lit.int .u8 x).wf = true)) : ∃ K, charabanclaw08_DecodeSums_7.f K a0 = some true := by
  have hb : By a0 := fun x hx => u8_of (w0.2 x hx)
  refine ⟨1000, ?_⟩
  unfold charabanclaw08_DecodeSums_7.f
  rw [awake_eq]
  simp only [Option.bind_some, Bool.not_true, cond_f]
  by_cases hl : a0.length ≤ 300
  · rw [cond_no (by simp; omega), dec_all a0 hb (by omega)]
    have h := allF_len 900 a0 hb
    obtain ⟨z, z1, z2, z3, z4⟩ := sums_l a0 hb hl (allF 900 a0).1 ((allF 900 a0).2.length : Int) (by omega) 900 1000 0 0 (by simp) (by omega) (by omega) (by omega) (by omega)
    simp only [Int.ofNat_zero] at z1
    simp only [Option.bind_some]
    erw [z1]
    simp only [Option.bind_some, Lp.elim]
    rw [cond_of (cutR_of (by omega) (by omega) (by omega)), cut_drop, dec_next _ (hb.drop _) (by simp; omega)]
    unfold isN at z4
    simp only [List.drop_zero] at z2
    simp only [Option.bind_some, z4, Bool.not_false]
    rw [wrap_i64 (by omega) (by omega), cond_of (by simp; omega)]
  · rw [cond_of (by simp; omega)]
end Go.Proofs.Ytmcdkmakjjlcnaa.Pure
