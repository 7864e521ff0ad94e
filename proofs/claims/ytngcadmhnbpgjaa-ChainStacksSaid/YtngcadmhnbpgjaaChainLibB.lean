/- Chains of interrupts: what is played and what is snooped, in words of lists. -/
import Derived.Test.YtngcadmhnbpgjaaChainLib
set_option linter.unusedVariables false
set_option linter.unusedSimpArgs false
namespace Go.Proofs.Ytngcadmhnbpgjaa.Chain
open Go.RowKit Go.Eng
/-- One act. -/
def stS (l : List Lk) (n : Int) : List Lk × Int :=
  if 0 ≤ n then (if n < (l.length : Int) then (stD l n (true, (rdD l n).2), n) else (l, -1)) else if n = -1 then acS l else reS l
def plS : List Int → List Lk → List Int → List Lk × List Int
  | [], l, o => (l, o)
  | n :: r, l, o => plS r (stS l n).1 (o ++ [(stS l n).2])
theorem stS_length (l : List Lk) (n : Int) : (stS l n).1.length = l.length := by
  unfold stS
  split
  · split <;> simp [stD_length]
  · split
    · exact acS_length l
    · exact reS_length l
theorem plS_length : ∀ (r : List Int) (l : List Lk) (o : List Int), (plS r l o).1.length = l.length
  | [], l, o => rfl
  | n :: r, l, o => by rw [plS, plS_length, stS_length]
theorem plS_out : ∀ (r : List Int) (l : List Lk) (o : List Int), (plS r l o).2.length = o.length + r.length
  | [], l, o => rfl
  | n :: r, l, o => by rw [plS, plS_out]; simp; omega
theorem play_l0 (K : Nat) (p0 : List Lk) (acts : List Int) (ha : acts.length ≤ 1000) : ∀ (m k i : Nat) (l : List Lk) (o : List Int), i + m = acts.length → m < k → l.length ≤ 1000 → l.length < K → o.length = i →
    chain_Play_22.l0 K p0 acts k l o (i : Int) = some (plS (acts.drop i) l o) := by
  intro m
  induction m with
  | zero =>
    intro k i l o hi hk hl hK ho
    obtain ⟨k, rfl⟩ : ∃ j, k = j + 1 := ⟨k - 1, by omega⟩
    rw [chain_Play_22.l0, cond_no (by simp; omega), List.drop_of_length_le (by omega)]
    rfl
  | succ m ih =>
    intro k i l o hi hk hl hK ho
    obtain ⟨k, rfl⟩ : ∃ j, k = j + 1 := ⟨k - 1, by omega⟩
    have hlt : i < acts.length := by omega
    have hm : ∀ x : Int, mayBe (o.length + [x].length) 8 = true := fun x => mayBe_of (by simp; omega) (by simp; omega)
    have hs := stS_length l acts[i]
    have next := ih k (i + 1) (stS l acts[i]).1 (o ++ [(stS l acts[i]).2]) (by omega) (by omega) (by omega) (by omega) (by simp; omega)
    rw [chain_Play_22.l0, cond_of (by simp; omega), cond_of (inR_nat hlt), wrap_nat (by omega), rdD_nat acts hlt, drop_at hlt]
    simp only [plS, Let, hm, cond_t]
    rw [← next]
    unfold stS
    by_cases h0 : 0 ≤ acts[i]
    · by_cases h1 : acts[i] < (l.length : Int)
      · simp only [if_pos h0, if_pos h1, cond_of (show decide (acts[i] ≥ 0) = true by simpa using h0), decide_eq_true h1, cond_t, cond_of (inR_iff.2 ⟨h0, h1⟩)]
      · simp only [if_pos h0, if_neg h1, cond_of (show decide (acts[i] ≥ 0) = true by simpa using h0), decide_eq_false h1, cond_f]
    · have hd : decide (acts[i] ≥ 0) = false := by simpa using h0
      by_cases h1 : acts[i] = -1
      · simp only [if_neg h0, if_pos h1, hd, cond_f, cond_of (show (acts[i] == -1) = true by simpa using h1), ack_eq hl hK, Option.bind_some]
      · simp only [if_neg h0, if_neg h1, hd, cond_f, cond_no (show (acts[i] == -1) = false by simpa using h1), reti_eq hl hK, Option.bind_some]
theorem play_eq {K : Nat} {l : List Lk} {acts : List Int} (ha : acts.length ≤ 1000) (hl : l.length ≤ 1000) (hK : l.length < K) (hK2 : acts.length < K) : chain_Play_22.f K l acts = some (plS acts l []) := by
  unfold chain_Play_22.f
  rw [clone_eq hl]
  have := play_l0 K l acts ha acts.length K 0 l [] (by omega) hK2 hl hK rfl
  simp only [Option.bind_some]
  erw [this]
  rfl
theorem rplay_l0 (K : Nat) (p0 : List Lk) (acts : List Int) (ha : acts.length ≤ 1000) : ∀ (m k i : Nat) (l : List Lk) (o : List Int), i + m = acts.length → m < k → l.length ≤ 1000 → l.length < K → o.length = i →
    charabancref26_Play_23.l0 K p0 acts k l o (i : Int) = some (plS (acts.drop i) l o) := by
  intro m
  induction m with
  | zero =>
    intro k i l o hi hk hl hK ho
    obtain ⟨k, rfl⟩ : ∃ j, k = j + 1 := ⟨k - 1, by omega⟩
    rw [charabancref26_Play_23.l0, cond_no (by simp; omega), List.drop_of_length_le (by omega)]
    rfl
  | succ m ih =>
    intro k i l o hi hk hl hK ho
    obtain ⟨k, rfl⟩ : ∃ j, k = j + 1 := ⟨k - 1, by omega⟩
    have hlt : i < acts.length := by omega
    have hm : ∀ x : Int, mayBe (o.length + [x].length) 8 = true := fun x => mayBe_of (by simp; omega) (by simp; omega)
    have hs := stS_length l acts[i]
    have next := ih k (i + 1) (stS l acts[i]).1 (o ++ [(stS l acts[i]).2]) (by omega) (by omega) (by omega) (by omega) (by simp; omega)
    rw [charabancref26_Play_23.l0, cond_of (by simp; omega), cond_of (inR_nat hlt), wrap_nat (by omega), rdD_nat acts hlt, drop_at hlt]
    simp only [plS, Let, hm, cond_t]
    rw [← next]
    unfold stS
    by_cases h0 : 0 ≤ acts[i]
    · by_cases h1 : acts[i] < (l.length : Int)
      · simp only [if_pos h0, if_pos h1, cond_of (show decide (acts[i] ≥ 0) = true by simpa using h0), decide_eq_true h1, cond_t, cond_of (inR_iff.2 ⟨h0, h1⟩), rwith_eq hl (inR_iff.2 ⟨h0, h1⟩), Option.bind_some]
      · simp only [if_pos h0, if_neg h1, cond_of (show decide (acts[i] ≥ 0) = true by simpa using h0), decide_eq_false h1, cond_f]
    · have hd : decide (acts[i] ≥ 0) = false := by simpa using h0
      by_cases h1 : acts[i] = -1
      · simp only [if_neg h0, if_pos h1, hd, cond_f, cond_of (show (acts[i] == -1) = true by simpa using h1), rack_eq hl hK, Option.bind_some]
      · simp only [if_neg h0, if_neg h1, hd, cond_f, cond_no (show (acts[i] == -1) = false by simpa using h1), rreti_eq hl hK, Option.bind_some]
theorem rplay_eq {K : Nat} {l : List Lk} {acts : List Int} (ha : acts.length ≤ 1000) (hl : l.length ≤ 1000) (hK : l.length < K) (hK2 : acts.length < K) : charabancref26_Play_23.f K l acts = some (plS acts l []) := by
  unfold charabancref26_Play_23.f
  have := rplay_l0 K l acts ha acts.length K 0 l [] (by omega) hK2 hl hK rfl
  erw [this]
  rfl
/-! ### Snooping -/
def snS (s b : Int) : Int × Bool := (chain_Snoop_24.f 0 s b).getD (0, false)
theorem snoop_eq (K : Nat) (s b : Int) : chain_Snoop_24.f K s b = some (snS s b) := by
  unfold snS chain_Snoop_24.f
  cases s == 1 <;> cases s == 2 <;> cases b == 237 <;> cases b == 203 <;> rfl
theorem rsnoop_eq (K : Nat) (s b : Int) : charabancref26_Snoop_25.f K s b = some (snS s b) := snoop_eq K s b
def cnS : List Int → Int → Int → Int
  | [], c, s => c
  | b :: r, c, s => cnS r (if (snS s b).2 then c + 1 else c) (snS s b).1
theorem count_l0 (K : Nat) (l : List Int) (hl : l.length ≤ 1000) : ∀ (m k i : Nat) (c s : Int), i + m = l.length → m < k → 0 ≤ c → c ≤ i → chain_Count_27.l0 K l k c s (i : Int) = some (cnS (l.drop i) c s) := by
  intro m
  induction m with
  | zero =>
    intro k i c s hi hk h0 hc
    obtain ⟨k, rfl⟩ : ∃ j, k = j + 1 := ⟨k - 1, by omega⟩
    rw [chain_Count_27.l0, cond_no (by simp; omega), List.drop_of_length_le (by omega)]
    rfl
  | succ m ih =>
    intro k i c s hi hk h0 hc
    obtain ⟨k, rfl⟩ : ∃ j, k = j + 1 := ⟨k - 1, by omega⟩
    have hlt : i < l.length := by omega
    rw [chain_Count_27.l0, cond_of (by simp; omega), cond_of (inR_nat hlt), rdD_nat l hlt, drop_at hlt, snoop_eq, wrap_nat (by omega), wrap_i64 (x := c + 1) (by omega) (by omega)]
    simp only [Option.bind_some, cnS]
    rcases Bool.eq_false_or_eq_true (snS s l[i]).2 with h | h <;> simp only [h, cond_t, cond_f, if_true, Bool.false_eq_true, if_false]
    · exact ih k (i + 1) _ _ (by omega) (by omega) (by omega) (by omega)
    · exact ih k (i + 1) _ _ (by omega) (by omega) (by omega) (by omega)
theorem count_eq {K : Nat} {l : List Int} (hl : l.length ≤ 1000) (hK : l.length < K) : chain_Count_27.f K l = some (cnS l 0 0) := by
  unfold chain_Count_27.f
  have := count_l0 K l hl l.length K 0 0 0 (by omega) hK (by omega) (by omega)
  erw [this]
  rfl
theorem rcount_l0 (K : Nat) (l : List Int) (hl : l.length ≤ 1000) : ∀ (m k i : Nat) (c s : Int), i + m = l.length → m < k → 0 ≤ c → c ≤ i → charabancref26_Count_28.l0 K l k c s (i : Int) = some (cnS (l.drop i) c s) := by
  intro m
  induction m with
  | zero =>
    intro k i c s hi hk h0 hc
    obtain ⟨k, rfl⟩ : ∃ j, k = j + 1 := ⟨k - 1, by omega⟩
    rw [charabancref26_Count_28.l0, cond_no (by simp; omega), List.drop_of_length_le (by omega)]
    rfl
  | succ m ih =>
    intro k i c s hi hk h0 hc
    obtain ⟨k, rfl⟩ : ∃ j, k = j + 1 := ⟨k - 1, by omega⟩
    have hlt : i < l.length := by omega
    rw [charabancref26_Count_28.l0, cond_of (by simp; omega), cond_of (inR_nat hlt), rdD_nat l hlt, drop_at hlt, rsnoop_eq, wrap_nat (by omega), wrap_i64 (x := c + 1) (by omega) (by omega)]
    simp only [Option.bind_some, cnS]
    rcases Bool.eq_false_or_eq_true (snS s l[i]).2 with h | h <;> simp only [h, cond_t, cond_f, if_true, Bool.false_eq_true, if_false]
    · exact ih k (i + 1) _ _ (by omega) (by omega) (by omega) (by omega)
    · exact ih k (i + 1) _ _ (by omega) (by omega) (by omega) (by omega)
theorem rcount_eq {K : Nat} {l : List Int} (hl : l.length ≤ 1000) (hK : l.length < K) : charabancref26_Count_28.f K l = some (cnS l 0 0) := by
  unfold charabancref26_Count_28.f
  have := rcount_l0 K l hl l.length K 0 0 0 (by omega) hK (by omega) (by omega)
  erw [this]
  rfl
end Go.Proofs.Ytngcadmhnbpgjaa.Chain
