/- The plain law of TimesParts. -/
import Derived.Test.YtmcdkmakjjlcnaaDoorTimTimesParts
import Derived.Test.YtmcdkmakjjlcnaaDoorTimLibT
namespace Go.Proofs.YtmcdkmakjjlcnaaDoor.Pure
open Go.RowKit Go.Eng Go.Proofs.YtmcdkmakjjlcnaaDoor.Tim
theorem allF_more : ∀ (m : Nat) (a : List Int), By a → a.length ≤ m → (allF m a).2 = [] → ∀ (b : List Int) (m2 m3 : Nat), By b → b.length ≤ m3 → a.length + b.length ≤ m2 → (allF m2 (a ++ b)).1 = (allF m a).1 ++ (allF m3 b).1
  | 0, a, ha, h1, h2, b, m2, m3, hb, h3, h4 => by
    have : a = [] := List.eq_nil_of_length_eq_zero (by omega)
    subst this
    simp only [allF, List.nil_append]
    exact same_fuel m2 m3 b hb (by simpa using h4) h3
  | m + 1, a, ha, h1, h2, b, m2, m3, hb, h3, h4 => by
    cases hn : isN a with
    | false =>
      have : a = [] := by simpa [allF, hn] using h2
      subst this
      simp only [allF, hn, List.nil_append, Bool.false_eq_true, if_false]
      exact same_fuel m2 m3 b hb (by simpa using h4) h3
    | true =>
      obtain ⟨g1, g2, g3⟩ := lenN_of ha hn
      simp only [allF, hn, if_true] at h2 ⊢
      have hsame : Nx (a ++ b) = Nx a := by
        have := (Nx_take ha hn).1 (a.drop (lenN a) ++ b)
        rwa [← List.append_assoc, List.take_append_drop] at this
      have e1 : isN (a ++ b) = true := by unfold isN at hn ⊢; rw [hsame]; exact hn
      have e2 : lenN (a ++ b) = lenN a := by unfold lenN; rw [hsame]
      have e3 : opN (a ++ b) = opN a := by unfold opN; rw [hsame]
      obtain ⟨m2, rfl⟩ : ∃ q, m2 = q + 1 := ⟨m2 - 1, by omega⟩
      simp only [allF, e1, e2, e3, if_true, List.cons_append]
      rw [List.drop_append_of_le_length g3, allF_more m (a.drop (lenN a)) (ha.drop _) (by simp; omega) h2 b m2 m3 hb h3 (by simp; omega)]
where
  same_fuel : ∀ (m n : Nat) (b : List Int), By b → b.length ≤ m → b.length ≤ n → (allF m b).1 = (allF n b).1
    | 0, n, b, hb, h1, h2 => by
      have : b = [] := List.eq_nil_of_length_eq_zero (by omega)
      subst this
      cases n with
      | zero => rfl
      | succ n => simp [allF, isN_nil]
    | m + 1, 0, b, hb, h1, h2 => by
      have : b = [] := List.eq_nil_of_length_eq_zero (by omega)
      subst this
      simp [allF, isN_nil]
    | m + 1, n + 1, b, hb, h1, h2 => by
      simp only [allF]
      cases hn : isN b with
      | false => simp
      | true =>
        obtain ⟨g1, g2, g3⟩ := lenN_of hb hn
        simp only [if_true]
        rw [same_fuel m n (b.drop (lenN b)) (hb.drop _) (by simp; omega) (by simp; omega)]
theorem sum_shift : ∀ (l : List Op6) (n m : Int), IntKind.wrap .i64 m = m → IntKind.wrap .i64 (sumW n l + m) = sumW (IntKind.wrap .i64 (n + m)) l
  | [], n, m, hm => rfl
  | o :: l, n, m, hm => by
    simp only [sumW]
    rw [sum_shift l _ m hm]
    congr 1
    simp only [IntKind.wrap_i64]
    omega
theorem sum_app : ∀ (l l2 : List Op6) (n : Int), sumW n (l ++ l2) = sumW (sumW n l) l2
  | [], l2, n => rfl
  | o :: l, l2, n => by simp only [List.cons_append, sumW]; exact sum_app l l2 _
theorem sum_wrapped : ∀ (l : List Op6) (n : Int), IntKind.wrap .i64 n = n → IntKind.wrap .i64 (sumW n l) = sumW n l
  | [], n, h => h
  | o :: l, n, h => by
    simp only [sumW]
    exact sum_wrapped l _ (by simp only [IntKind.wrap_i64]; omega)
theorem TimesParts (a0 : List Int) (a1 : List Int) (w0 : (a0.length * 1 ≤ 140737488351232 ∧ ∀ x ∈ a0, (Lit.int .u8 x).wf = true)) (w1 : (a1.length * 1 ≤ 140737488351232 ∧ ∀ x ∈ a1, (Lit.int .u8 x).wf = true)) : ∃ K, charabanclaw10_TimesParts_7.f K a0 a1 = some true := by
  have ha : By a0 := fun x hx => u8_of (w0.2 x hx)
  have hb : By a1 := fun x hx => u8_of (w1.2 x hx)
  refine ⟨1000, ?_⟩
  unfold charabanclaw10_TimesParts_7.f
  rw [awake_eq]
  simp only [Option.bind_some, Bool.not_true, cond_f, Let]
  by_cases hl : a0.length ≤ 100
  · by_cases hl2 : a1.length ≤ 100
    · rw [decide_eq_false (show ¬ (a0.length : Int) > 100 by omega), decide_eq_false (show ¬ (a1.length : Int) > 100 by omega)]
      simp only [cond_f]
      rw [ref_all a0 ha (by omega)]
      simp only [Option.bind_some]
      by_cases h : (allF 900 a0).2 = []
      · have hab : By (a0 ++ a1) := fun x hx => by
          rcases List.mem_append.1 hx with h | h
          · exact ha x h
          · exact hb x h
        rw [h, cond_no (by simp), List.nil_append, cond_of (mayBe_of (by simp; omega) (by simp; omega)), cond_of (mayBe_of (by omega) (by omega)), (all_at (a0 ++ a1) hab (by simp; omega)).1, (all_at a0 ha (by omega)).1, (all_at a1 hb (by omega)).1]
        simp only [Option.bind_some]
        rw [allF_more 900 a0 ha (by omega) h a1 900 900 hb (by omega) (by omega), sum_app, Int.add_comm, sum_shift _ _ _ (sum_wrapped _ _ rfl), Int.zero_add, sum_wrapped _ _ rfl]
        simp
      · rw [cond_of]
        have : 0 < (allF 900 a0).2.length := List.length_pos_iff.2 h
        simp; omega
    · rw [decide_eq_true (show (a1.length : Int) > 100 by omega)]
      cases decide ((a0.length : Int) > 100) <;> rfl
  · rw [decide_eq_true (show (a0.length : Int) > 100 by omega)]; rfl
end Go.Proofs.YtmcdkmakjjlcnaaDoor.Pure
