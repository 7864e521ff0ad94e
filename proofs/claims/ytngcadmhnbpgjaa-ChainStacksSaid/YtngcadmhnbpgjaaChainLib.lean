/- Chains of interrupts: what the told functions say, in words of lists. -/
import Derived.Test.YtngcadmhnbpgjaaChain
import Derived.Test.YtngcadmhnbpgjaaEngPure
set_option linter.unusedVariables false
set_option linter.unusedSimpArgs false
namespace Go.Proofs.Ytngcadmhnbpgjaa.Chain
open Go.RowKit Go.Eng
abbrev Lk := Bool × Bool
/-- Which devices are told that none ahead is served. -/
def enS (l : List Lk) : List Bool := (List.range l.length).map fun i => !(l.take i).any (·.2)
/-- The first one that is served. -/
def fuS : List Lk → Nat → Int
  | [], _ => -1
  | x :: r, i => if x.2 then (i : Int) else fuS r (i + 1)
def grS : List Lk → Nat → Int
  | [], _ => -1
  | x :: r, i => if x.2 then -1 else if x.1 then (i : Int) else grS r (i + 1)

theorem clone_eq {K : Nat} {l : List Lk} (h : l.length ≤ 1000) : chain_Link_48.f K l = some l := by
  unfold chain_Link_48.f
  rw [cond_of (mayBe_of (by simp; omega) (by simp; omega))]
  simp
theorem with_eq {K : Nat} {l : List Lk} {i : Int} {a b : Bool} (h : l.length ≤ 1000) (hi : inR i l.length = true) : chain_with_49.f K l i a b = some (stD l i (a, b)) := by
  unfold chain_with_49.f
  rw [clone_eq h]
  simp [hi]
theorem rwith_eq {K : Nat} {l : List Lk} {i : Int} {a b : Bool} (h : l.length ≤ 1000) (hi : inR i l.length = true) : charabancref26_with_50.f K l i a b = some (stD l i (a, b)) := by
  unfold charabancref26_with_50.f
  rw [cond_of (mayBe_of (by simp; omega) (by simp; omega))]
  simp [hi]
/-! ### plain -/
theorem plain_l0 (K : Nat) (l : List Lk) (hl : l.length ≤ 1000) : ∀ (m k i : Nat), i + m = l.length → m < k → charabanclaw26_plain_14.l0 K l k (l.take i) (i : Int) = some l := by
  intro m
  induction m with
  | zero =>
    intro k i hi hk
    obtain ⟨k, rfl⟩ : ∃ j, k = j + 1 := ⟨k - 1, by omega⟩
    rw [charabanclaw26_plain_14.l0, cond_no (by simp; omega), List.take_of_length_le (by omega)]
  | succ m ih =>
    intro k i hi hk
    obtain ⟨k, rfl⟩ : ∃ j, k = j + 1 := ⟨k - 1, by omega⟩
    have hlt : i < l.length := by omega
    rw [charabanclaw26_plain_14.l0, cond_of (by simp; omega), cond_of (inR_nat hlt), cond_of (mayBe_of (by simp; omega) (by simp; omega)), wrap_nat (by omega), rdD_nat l hlt]
    have : l.take i ++ [((l[i]).1, (l[i]).2)] = l.take (i + 1) := by rw [List.take_succ_eq_append_getElem hlt]
    rw [this]
    exact ih k (i + 1) (by omega) (by omega)
theorem plain_eq {K : Nat} {l : List Lk} (hl : l.length ≤ 1000) (hK : l.length < K) : charabanclaw26_plain_14.f K l = some l := by
  unfold charabanclaw26_plain_14.f
  have := plain_l0 K l hl l.length K 0 (by omega) hK
  simp only [List.take_zero, Int.ofNat_zero] at this
  erw [this]
  rfl
/-! ### Enabled -/
theorem en_get {l : List Lk} {i : Nat} (h : i < l.length) : (enS l)[i]'(by simp [enS]; omega) = !(l.take i).any (·.2) := by simp [enS]
theorem enS_length (l : List Lk) : (enS l).length = l.length := by simp [enS]
theorem en_l0 (K : Nat) (p0 l : List Lk) (t23 : List Bool) (n : Int) (hn : n = l.length) (hl : l.length ≤ 1000) : ∀ (m k i : Nat), i + m = l.length → m < k →
    chain_Enabled_12.l0 K p0 l n t23 k (i : Int) = some (if (l.drop i).any (·.2) then Lp.ret (fuS (l.drop i) i) else Lp.go ()) := by
  intro m
  subst hn
  induction m with
  | zero =>
    intro k i hi hk
    obtain ⟨k, rfl⟩ : ∃ j, k = j + 1 := ⟨k - 1, by omega⟩
    rw [chain_Enabled_12.l0, cond_no (by simp; omega), List.drop_of_length_le (by omega)]
    rfl
  | succ m ih =>
    intro k i hi hk
    obtain ⟨k, rfl⟩ : ∃ j, k = j + 1 := ⟨k - 1, by omega⟩
    have hlt : i < l.length := by omega
    rw [chain_Enabled_12.l0, cond_of (by simp; omega), cond_of (inR_nat hlt), rdD_nat l hlt, wrap_nat (by omega), ih k (i + 1) (by omega) (by omega), drop_at hlt]
    simp only [chain_Enabled_1_47.f, Option.bind_some, List.any_cons, fuS]
    rcases Bool.eq_false_or_eq_true (l[i]).2 with h2 | h2 <;> simp [h2]
theorem fuS_ge : ∀ (l : List Lk) (i : Nat), l.any (·.2) = true → 0 ≤ fuS l i
  | x :: r, i, h => by
    simp only [fuS]
    split
    · omega
    · rename_i hx
      exact fuS_ge r (i + 1) (by simpa [hx] using h)
theorem en_l1 (K : Nat) (l : List Lk) (hl : l.length ≤ 1000) (hK : l.length < K) : ∀ (m k i : Nat) (o : List Bool), i + m = l.length → m < k → o.length = l.length → o.take i = (enS l).take i →
    chain_Enabled_12.l1 K l k o (i : Int) = some (enS l) := by
  intro m
  induction m with
  | zero =>
    intro k i o hi hk ho hoi
    obtain ⟨k, rfl⟩ : ∃ j, k = j + 1 := ⟨k - 1, by omega⟩
    rw [chain_Enabled_12.l1, cond_no (by simp; omega)]
    rw [List.take_of_length_le (by omega), List.take_of_length_le (by rw [enS_length]; omega)] at hoi
    rw [hoi]
  | succ m ih =>
    intro k i o hi hk ho hoi
    obtain ⟨k, rfl⟩ : ∃ j, k = j + 1 := ⟨k - 1, by omega⟩
    have hlt : i < l.length := by omega
    rw [chain_Enabled_12.l1, cond_of (by simp; omega), cond_of (cutR_of (by omega) (by omega) (by omega)), cutL_nat]
    have hlen : (l.take i).length = i := by simp; omega
    have h0 := en_l0 K l (l.take i) o ((l.take i).length : Int) rfl (by omega) (l.take i).length K 0 (by omega) (by omega)
    simp only [Int.ofNat_zero, List.drop_zero] at h0
    have step : ∀ b : Bool, b = (!(l.take i).any (·.2)) → chain_Enabled_12.l1 K l k (stD o (i : Int) b) ((i + 1 : Nat) : Int) = some (enS l) := fun b hb => by
      refine ih k (i + 1) _ (by omega) (by omega) (by rw [stD_length]; exact ho) ?_
      rw [List.take_succ_eq_append_getElem (by rw [stD_length]; omega), List.take_succ_eq_append_getElem (by rw [enS_length]; omega), en_get hlt]
      simp only [stD, Int.toNat_natCast, List.getElem_set_self]
      rw [List.take_set_of_le (by omega), hoi, hb]
    unfold Let
    erw [h0]
    cases hany : (l.take i).any (·.2) with
    | true =>
      have hge := fuS_ge _ 0 hany
      simp only [if_true, Option.bind_some, Lp.elim]
      rw [cond_of (inR_nat (by omega)), wrap_nat (by omega)]
      refine step _ ?_
      simp [hany, hge]
    | false =>
      simp only [Bool.false_eq_true, if_false, Option.bind_some, Lp.elim]
      rw [cond_of (inR_nat (by omega)), wrap_nat (by omega)]
      refine step _ ?_
      simp [hany]
theorem en_eq {K : Nat} {l : List Lk} (hl : l.length ≤ 1000) (hK : l.length < K) : chain_Enabled_12.f K l = some (enS l) := by
  unfold chain_Enabled_12.f
  rw [cond_of (makeR_of (by omega) (by omega) (by omega))]
  have := en_l1 K l hl hK l.length K 0 (List.replicate l.length false) (by omega) hK (by simp) (by simp)
  simp only [Int.toNat_natCast]
  erw [this]
  rfl
theorem ren_l0 (K : Nat) (l : List Lk) (hl : l.length ≤ 1000) : ∀ (m k i : Nat), i + m = l.length → m < k →
    charabancref26_Enabled_13.l0 K l k ((enS l).take i) (!(l.take i).any (·.2)) (i : Int) = some (enS l) := by
  intro m
  induction m with
  | zero =>
    intro k i hi hk
    obtain ⟨k, rfl⟩ : ∃ j, k = j + 1 := ⟨k - 1, by omega⟩
    rw [charabancref26_Enabled_13.l0, cond_no (by simp; omega), List.take_of_length_le (by rw [enS_length]; omega)]
  | succ m ih =>
    intro k i hi hk
    obtain ⟨k, rfl⟩ : ∃ j, k = j + 1 := ⟨k - 1, by omega⟩
    have hlt : i < l.length := by omega
    have hnext : (enS l).take i ++ [!(l.take i).any (·.2)] = (enS l).take (i + 1) := by rw [List.take_succ_eq_append_getElem (by rw [enS_length]; omega), en_get hlt]
    have hany : (l.take (i + 1)).any (·.2) = ((l.take i).any (·.2) || (l[i]).2) := by rw [List.take_succ_eq_append_getElem hlt]; simp only [List.any_append, List.any_cons, List.any_nil, Bool.or_false]
    rw [charabancref26_Enabled_13.l0, cond_of (by simp; omega), cond_of (mayBe_of (by simp [enS_length]; omega) (by simp [enS_length]; omega)), cond_of (inR_nat hlt), rdD_nat l hlt, wrap_nat (by omega), hnext]
    have := ih k (i + 1) (by omega) (by omega)
    rw [hany] at this
    rcases Bool.eq_false_or_eq_true ((l.take i).any (·.2)) with ha | ha <;> simp only [ha, Bool.not_true, Bool.not_false, cond_t, cond_f, Bool.false_or, Bool.true_or] at this ⊢ <;> exact this
theorem ren_eq {K : Nat} {l : List Lk} (hl : l.length ≤ 1000) (hK : l.length < K) : charabancref26_Enabled_13.f K l = some (enS l) := by
  unfold charabancref26_Enabled_13.f
  have := ren_l0 K l hl l.length K 0 (by omega) hK
  simp only [List.take_zero, List.any_nil, Bool.not_false] at this
  erw [this]
  rfl
/-! ### Grants -/
theorem gr_l0 (K : Nat) (l : List Lk) (hl : l.length ≤ 1000) : ∀ (m k i : Nat), i + m = l.length → m < k →
    (chain_Grants_19.l0 K l k (i : Int)).bind (fun x19 => Lp.elim x19 (fun t23 => some t23) (fun _ => some (-1))) = some (grS (l.drop i) i) := by
  intro m
  induction m with
  | zero =>
    intro k i hi hk
    obtain ⟨k, rfl⟩ : ∃ j, k = j + 1 := ⟨k - 1, by omega⟩
    rw [chain_Grants_19.l0, cond_no (by simp; omega), List.drop_of_length_le (by omega)]
    rfl
  | succ m ih =>
    intro k i hi hk
    obtain ⟨k, rfl⟩ : ∃ j, k = j + 1 := ⟨k - 1, by omega⟩
    have hlt : i < l.length := by omega
    have := ih k (i + 1) (by omega) (by omega)
    rw [chain_Grants_19.l0, cond_of (by simp; omega), cond_of (inR_nat hlt), rdD_nat l hlt, wrap_nat (by omega), drop_at hlt]
    simp only [grS]
    rcases Bool.eq_false_or_eq_true (l[i]).2 with h2 | h2 <;> rcases Bool.eq_false_or_eq_true (l[i]).1 with h1 | h1 <;> simp [h1, h2, Lp.elim]
    all_goals exact this
theorem gr_eq {K : Nat} {l : List Lk} (hl : l.length ≤ 1000) (hK : l.length < K) : chain_Grants_19.f K l = some (grS l 0) := by
  unfold chain_Grants_19.f
  have := gr_l0 K l hl l.length K 0 (by omega) hK
  simpa using this
theorem rgr_l0 (K : Nat) (l : List Lk) (hl : l.length ≤ 1000) : ∀ (m k i : Nat), i + m = l.length → m < k →
    (charabancref26_Grants_20.l0 K l (enS l) k (i : Int)).bind (fun x41 => Lp.elim x41 (fun t45 => some t45) (fun _ => some (-1))) = some (if (l.take i).any (·.2) then -1 else grS (l.drop i) i) := by
  intro m
  induction m with
  | zero =>
    intro k i hi hk
    obtain ⟨k, rfl⟩ : ∃ j, k = j + 1 := ⟨k - 1, by omega⟩
    rw [charabancref26_Grants_20.l0, cond_no (by simp; omega), List.drop_of_length_le (by omega)]
    simp [Lp.elim, grS]
  | succ m ih =>
    intro k i hi hk
    obtain ⟨k, rfl⟩ : ∃ j, k = j + 1 := ⟨k - 1, by omega⟩
    have hlt : i < l.length := by omega
    have := ih k (i + 1) (by omega) (by omega)
    have hany : (l.take (i + 1)).any (·.2) = ((l.take i).any (·.2) || (l[i]).2) := by rw [List.take_succ_eq_append_getElem hlt]; simp only [List.any_append, List.any_cons, List.any_nil, Bool.or_false]
    rw [hany] at this
    have hen : rdD (enS l) (i : Int) = !(l.take i).any (·.2) := by rw [rdD_nat _ (by rw [enS_length]; exact hlt), en_get hlt]
    rw [charabancref26_Grants_20.l0, cond_of (by simp; omega), cond_of (inR_nat hlt), rdD_nat l hlt, wrap_nat (by omega), drop_at hlt]
    have hin : inR (i : Int) (enS l).length = true := inR_nat (by rw [enS_length]; exact hlt)
    simp only [grS, Let, hin, hen, cond_t]
    rcases Bool.eq_false_or_eq_true ((l.take i).any (·.2)) with ha | ha <;> rcases Bool.eq_false_or_eq_true (l[i]).2 with h2 | h2 <;> rcases Bool.eq_false_or_eq_true (l[i]).1 with h1 | h1 <;> simp only [ha, h2, h1, Bool.or_false, Bool.or_true, Bool.false_or, Bool.true_or, if_true, Bool.false_eq_true, if_false, cond_t, cond_f, Bool.not_true, Bool.not_false, Option.bind_some, Lp.elim] at this ⊢ <;> exact this
theorem rgr_eq {K : Nat} {l : List Lk} (hl : l.length ≤ 1000) (hK : l.length < K) : charabancref26_Grants_20.f K l = some (grS l 0) := by
  unfold charabancref26_Grants_20.f
  have := rgr_l0 K l hl l.length K 0 (by omega) hK
  rw [ren_eq hl hK]
  simpa using this
theorem grS_lt : ∀ (l : List Lk) (i : Nat), grS l i < 0 ∨ ((i : Int) ≤ grS l i ∧ grS l i < (i : Int) + l.length)
  | [], i => by simp [grS]
  | x :: r, i => by
    have := grS_lt r (i + 1)
    simp only [grS, List.length_cons]
    split
    · omega
    · split <;> omega
def acS (l : List Lk) : List Lk × Int := if grS l 0 < 0 then (l, -1) else (stD l (grS l 0) (false, true), grS l 0)
theorem ack_eq {K : Nat} {l : List Lk} (hl : l.length ≤ 1000) (hK : l.length < K) : chain_Ack_15.f K l = some (acS l) := by
  unfold chain_Ack_15.f acS
  rw [gr_eq hl hK]
  have := grS_lt l 0
  by_cases h : grS l 0 < 0
  · simp [h, clone_eq hl]
  · simp only [Option.bind_some, if_neg h, cond_no (show decide (grS l 0 < 0) = false by simp [h])]
    rw [with_eq hl (inR_iff.2 (by omega))]
    rfl
theorem rack_eq {K : Nat} {l : List Lk} (hl : l.length ≤ 1000) (hK : l.length < K) : charabancref26_Ack_16.f K l = some (acS l) := by
  unfold charabancref26_Ack_16.f acS
  rw [rgr_eq hl hK]
  have := grS_lt l 0
  by_cases h : grS l 0 < 0
  · simp [h]
  · simp only [Option.bind_some, if_neg h, cond_no (show decide (grS l 0 < 0) = false by simp [h])]
    rw [rwith_eq hl (inR_iff.2 (by omega))]
    rfl
/-! ### Reti -/
theorem fuS_lt : ∀ (l : List Lk) (i : Nat), fuS l i < 0 ∨ ((i : Int) ≤ fuS l i ∧ fuS l i < (i : Int) + l.length)
  | [], i => by simp [fuS]
  | x :: r, i => by
    have := fuS_lt r (i + 1)
    simp only [fuS, List.length_cons]
    split <;> omega
def reS (l : List Lk) : List Lk × Int := if fuS l 0 < 0 then (l, -1) else (stD l (fuS l 0) ((rdD l (fuS l 0)).1, false), fuS l 0)
theorem re_l0 (K : Nat) (l : List Lk) (hl : l.length ≤ 1000) (f : Int → Option (List Lk × Int)) : ∀ (m k i : Nat), i + m = l.length → m < k →
    (chain_Reti_17.l0 K l k (i : Int)).bind (fun x16 => Lp.elim x16 (fun t20 => f t20) (fun _ => f (-1))) = f (fuS (l.drop i) i) := by
  intro m
  induction m with
  | zero =>
    intro k i hi hk
    obtain ⟨k, rfl⟩ : ∃ j, k = j + 1 := ⟨k - 1, by omega⟩
    rw [chain_Reti_17.l0, cond_no (by simp; omega), List.drop_of_length_le (by omega)]
    rfl
  | succ m ih =>
    intro k i hi hk
    obtain ⟨k, rfl⟩ : ∃ j, k = j + 1 := ⟨k - 1, by omega⟩
    have hlt : i < l.length := by omega
    have := ih k (i + 1) (by omega) (by omega)
    rw [chain_Reti_17.l0, cond_of (by simp; omega), cond_of (inR_nat hlt), rdD_nat l hlt, wrap_nat (by omega), drop_at hlt]
    simp only [fuS, chain_Reti_1_52.f, Option.bind_some]
    rcases Bool.eq_false_or_eq_true (l[i]).2 with h2 | h2 <;> simp [h2, Lp.elim]
    exact this
theorem reti_eq {K : Nat} {l : List Lk} (hl : l.length ≤ 1000) (hK : l.length < K) : chain_Reti_17.f K l = some (reS l) := by
  unfold chain_Reti_17.f Let
  have h0 := re_l0 K l hl (fun t23 => cond (decide (t23 < 0)) ((chain_Link_48.f K l).bind fun t34 => some (t34, (-1))) (cond (inR t23 l.length) ((chain_with_49.f K l t23 ((rdD l t23).1) false).bind fun t49 => some (t49, t23)) none)) l.length K 0 (by omega) hK
  refine Eq.trans h0 ?_
  unfold reS
  simp only [List.drop_zero]
  have := fuS_lt l 0
  by_cases h : fuS l 0 < 0
  · simp [h, clone_eq hl]
  · rw [if_neg h, cond_no (show decide (fuS l 0 < 0) = false by simp [h]), cond_of (inR_iff.2 (by omega)), with_eq hl (inR_iff.2 (by omega))]
    rfl
theorem rre_l0 (K : Nat) (l : List Lk) (hl : l.length ≤ 1000) : ∀ (m k i : Nat), i + m = l.length → m < k →
    (charabancref26_Reti_18.l0 K l k (i : Int)).bind (fun x28 => Lp.elim x28 (fun yx28 => some (yx28.1, yx28.2)) (fun _ => some (l, (-1)))) = some (if fuS (l.drop i) i < 0 then (l, -1) else (stD l (fuS (l.drop i) i) ((rdD l (fuS (l.drop i) i)).1, false), fuS (l.drop i) i)) := by
  intro m
  induction m with
  | zero =>
    intro k i hi hk
    obtain ⟨k, rfl⟩ : ∃ j, k = j + 1 := ⟨k - 1, by omega⟩
    rw [charabancref26_Reti_18.l0, cond_no (by simp; omega), List.drop_of_length_le (by omega)]
    simp [Lp.elim, fuS]
  | succ m ih =>
    intro k i hi hk
    obtain ⟨k, rfl⟩ : ∃ j, k = j + 1 := ⟨k - 1, by omega⟩
    have hlt : i < l.length := by omega
    have := ih k (i + 1) (by omega) (by omega)
    rw [charabancref26_Reti_18.l0, cond_of (by simp; omega), cond_of (inR_nat hlt), wrap_nat (by omega), drop_at hlt]
    simp only [fuS, rwith_eq hl (inR_nat hlt), Option.bind_some]
    rw [rdD_nat l hlt]
    rcases Bool.eq_false_or_eq_true (l[i]).2 with h2 | h2
    · simp only [h2, cond_t, if_true, Option.bind_some, Lp.elim]
      rw [if_neg (by omega), rdD_nat l hlt]
    · simp only [h2, cond_f, Bool.false_eq_true, if_false]
      exact this
theorem rreti_eq {K : Nat} {l : List Lk} (hl : l.length ≤ 1000) (hK : l.length < K) : charabancref26_Reti_18.f K l = some (reS l) := by
  unfold charabancref26_Reti_18.f
  have := rre_l0 K l hl l.length K 0 (by omega) hK
  refine Eq.trans this ?_
  simp only [List.drop_zero]
  rfl
theorem acS_length (l : List Lk) : (acS l).1.length = l.length := by unfold acS; split <;> simp [stD_length]
theorem reS_length (l : List Lk) : (reS l).1.length = l.length := by unfold reS; split <;> simp [stD_length]
/-! ### Same, Ints -/
theorem same_l0 (K : Nat) (l : List Lk) (hl : l.length ≤ 1000) : ∀ (m k i : Nat), i + m = l.length → m < k → charabancref26_Same_21.l0 K l l k (i : Int) = some (Lp.go ()) := by
  intro m
  induction m with
  | zero =>
    intro k i hi hk
    obtain ⟨k, rfl⟩ : ∃ j, k = j + 1 := ⟨k - 1, by omega⟩
    rw [charabancref26_Same_21.l0, cond_no (by simp; omega)]
  | succ m ih =>
    intro k i hi hk
    obtain ⟨k, rfl⟩ : ∃ j, k = j + 1 := ⟨k - 1, by omega⟩
    have hlt : i < l.length := by omega
    rw [charabancref26_Same_21.l0, cond_of (by simp; omega), cond_of (inR_nat hlt), cond_of (inR_nat hlt), cond_no (by simp), wrap_nat (by omega)]
    exact ih k (i + 1) (by omega) (by omega)
theorem same_eq {K : Nat} {l : List Lk} (hl : l.length ≤ 1000) (hK : l.length < K) : charabancref26_Same_21.f K l l = some true := by
  unfold charabancref26_Same_21.f
  have := same_l0 K l hl l.length K 0 (by omega) hK
  rw [cond_no (by simp)]
  erw [this]
  rfl
theorem ints_l0 (K : Nat) (l : List Int) (hl : l.length ≤ 1000) : ∀ (m k i : Nat), i + m = l.length → m < k → charabancref26_Ints_26.l0 K l l k (i : Int) = some (Lp.go ()) := by
  intro m
  induction m with
  | zero =>
    intro k i hi hk
    obtain ⟨k, rfl⟩ : ∃ j, k = j + 1 := ⟨k - 1, by omega⟩
    rw [charabancref26_Ints_26.l0, cond_no (by simp; omega)]
  | succ m ih =>
    intro k i hi hk
    obtain ⟨k, rfl⟩ : ∃ j, k = j + 1 := ⟨k - 1, by omega⟩
    have hlt : i < l.length := by omega
    rw [charabancref26_Ints_26.l0, cond_of (by simp; omega), cond_of (inR_nat hlt), cond_of (inR_nat hlt), cond_no (by simp), wrap_nat (by omega)]
    exact ih k (i + 1) (by omega) (by omega)
theorem ints_eq {K : Nat} {l : List Int} (hl : l.length ≤ 1000) (hK : l.length < K) : charabancref26_Ints_26.f K l l = some true := by
  unfold charabancref26_Ints_26.f
  have := ints_l0 K l hl l.length K 0 (by omega) hK
  rw [cond_no (by simp)]
  erw [this]
  rfl
theorem awake_eq : charabanclaw26_awake_11.f 400 = some true := by kernel_rfl
end Go.Proofs.Ytngcadmhnbpgjaa.Chain
