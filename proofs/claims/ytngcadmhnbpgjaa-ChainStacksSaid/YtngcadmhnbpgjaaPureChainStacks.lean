/- The plain law of ChainStacks. -/
import Derived.Test.YtngcadmhnbpgjaaChainChainStacks
import Derived.Test.YtngcadmhnbpgjaaChainLibB
set_option linter.unusedVariables false
set_option linter.unusedSimpArgs false
namespace Go.Proofs.Ytngcadmhnbpgjaa.Pure
open Go.RowKit Go.Eng Go.Proofs.Ytngcadmhnbpgjaa.Chain
/-- The places of those that are served, from i on. -/
def uxS : List Lk → Nat → List Int
  | [], _ => []
  | x :: r, i => if x.2 then (i : Int) :: uxS r (i + 1) else uxS r (i + 1)
theorem ux_ge : ∀ (l : List Lk) (i : Nat), ∀ y ∈ uxS l i, (i : Int) ≤ y
  | [], i, y, h => by cases h
  | x :: r, i, y, h => by
    simp only [uxS] at h
    split at h
    · rcases List.mem_cons.1 h with rfl | h
      · omega
      · have := ux_ge r (i + 1) y h; omega
    · have := ux_ge r (i + 1) y h; omega
theorem fu_ux : ∀ (l : List Lk) (i : Nat), fuS l i = (uxS l i).headD (-1)
  | [], i => rfl
  | x :: r, i => by
    simp only [fuS, uxS]
    split
    · rfl
    · exact fu_ux r (i + 1)
theorem gr_below : ∀ (l : List Lk) (i : Nat), 0 ≤ grS l i → ∀ y ∈ uxS l i, grS l i < y
  | [], i, h, y, hy => by cases hy
  | x :: r, i, h, y, hy => by
    simp only [grS] at h ⊢
    simp only [uxS] at hy
    split at h
    · omega
    · rename_i hx
      simp only [hx, Bool.false_eq_true, if_false] at hy ⊢
      split at h
      · rename_i h1
        have := ux_ge r (i + 1) y hy
        simp only [h1, if_true]
        omega
      · rename_i h1
        simp only [h1, Bool.false_eq_true, if_false]
        exact gr_below r (i + 1) h y hy
theorem ux_ack : ∀ (l : List Lk) (i : Nat), 0 ≤ grS l i → uxS (stD l (grS l i - (i : Int)) (false, true)) i = grS l i :: uxS l i
  | [], i, h => by simp [grS] at h
  | x :: r, i, h => by
    have hlt := grS_lt r (i + 1)
    simp only [grS] at h ⊢
    split at h
    · omega
    · rename_i hx
      simp only [hx, Bool.false_eq_true, if_false] at h ⊢
      split at h
      · rename_i h1
        simp [h1, stD, uxS, hx]
      · rename_i h1
        have ih := ux_ack r (i + 1) h
        simp only [h1, Bool.false_eq_true, if_false] at h ⊢
        have e : (grS r (i + 1) - (i : Int)).toNat = (grS r (i + 1) - ((i + 1 : Nat) : Int)).toNat + 1 := by omega
        simp only [stD] at ih ⊢
        rw [e, List.set_cons_succ]
        simp only [uxS, hx, Bool.false_eq_true, if_false]
        exact ih
theorem ux_reti : ∀ (l : List Lk) (i : Nat) (k : Int) (t : List Int) (a : Bool), uxS l i = k :: t → uxS (stD l (k - (i : Int)) (a, false)) i = t
  | [], i, k, t, a, h => by cases h
  | x :: r, i, k, t, a, h => by
    simp only [uxS] at h
    split at h
    · rename_i hx
      simp only [List.cons.injEq] at h
      obtain ⟨rfl, rfl⟩ := h
      simp [stD, uxS]
    · rename_i hx
      have hk := ux_ge r (i + 1) k (by rw [h]; simp)
      have ih := ux_reti r (i + 1) k t a h
      have e : (k - (i : Int)).toNat = (k - ((i + 1 : Nat) : Int)).toNat + 1 := by omega
      simp only [stD] at ih ⊢
      rw [e, List.set_cons_succ]
      simp only [uxS, hx, Bool.false_eq_true, if_false]
      exact ih
theorem ux_want : ∀ (l : List Lk) (i n : Nat) (h : n < l.length) (a : Bool), uxS (l.set n (a, (l[n]).2)) i = uxS l i
  | x :: r, i, 0, h, a => by simp [uxS]
  | x :: r, i, n + 1, h, a => by
    simp only [List.set_cons_succ, List.getElem_cons_succ, uxS]
    rw [ux_want r (i + 1) n (by simpa using h) a]
theorem ux_stS_pos {l : List Lk} {n : Int} (h : 0 ≤ n) : uxS (stS l n).1 0 = uxS l 0 := by
  unfold stS
  rw [if_pos h]
  split
  · rename_i h1
    have hlt : n.toNat < l.length := by omega
    have := ux_want l 0 n.toNat hlt true
    have hrd : rdD l n = l[n.toNat] := by simp [rdD, hlt]
    rw [hrd]
    exact this
  · rfl
theorem cut_one {xs : List Int} {i : Nat} (h : i < xs.length) : cutL xs (i : Int) ((i + 1 : Nat) : Int) = [xs[i]] := by
  simp only [cutL, Int.toNat_natCast]
  rw [List.take_succ_eq_append_getElem h, List.drop_append_of_le_length (by simp; omega), List.drop_of_length_le (by simp; omega)]
  rfl
theorem play_one {K : Nat} {l : List Lk} {n : Int} (hl : l.length ≤ 1000) (hK : l.length < K) (hK2 : 1 < K) : chain_Play_22.f K l [n] = some ((stS l n).1, [(stS l n).2]) := by
  rw [play_eq (by simp) hl hK (by simpa using hK2)]
  rfl
theorem stacks_l0 (K : Nat) (p0 : Int) (acts : List Int) (ha : acts.length ≤ 1000) (hK : 400 ≤ K) : ∀ (m k i : Nat) (l : List Lk) (s : List Int), i + m = acts.length → m < k → l.length ≤ 300 → s.length ≤ i → s.reverse = uxS l 0 →
    ∃ l' s', charabanclaw26_ChainStacks_5.l0 K p0 acts k l s (i : Int) = some (Lp.go (l', s')) ∧ s'.reverse = uxS l' 0 ∧ l'.length ≤ 300 := by
  intro m
  induction m with
  | zero =>
    intro k i l s hi hk hl hs hinv
    obtain ⟨k, rfl⟩ : ∃ j, k = j + 1 := ⟨k - 1, by omega⟩
    exact ⟨l, s, by rw [charabanclaw26_ChainStacks_5.l0, cond_no (by simp; omega)], hinv, hl⟩
  | succ m ih =>
    intro k i l s hi hk hl hs hinv
    obtain ⟨k, rfl⟩ : ∃ j, k = j + 1 := ⟨k - 1, by omega⟩
    have hlt : i < acts.length := by omega
    have hlen := stS_length l acts[i]
    have hp := play_one (K := K) (l := l) (n := acts[i]) (by omega) (by omega) (by omega)
    have hin1 : inR 0 ([(stS l acts[i]).2] : List Int).length = true := rfl
    have hr0 : rdD ([(stS l acts[i]).2] : List Int) 0 = (stS l acts[i]).2 := rfl
    have hne : ((([(stS l acts[i]).2] : List Int).length : Int) != 1) = false := rfl
    rw [charabanclaw26_ChainStacks_5.l0, cond_of (by simp; omega), wrap_nat (by omega), cond_of (cutR_of (by omega) (by omega) (by omega)), cut_one hlt, hp]
    simp only [Option.bind_some, hne, cond_f, cond_of (inR_nat hlt), rdD_nat acts hlt, hin1, hr0, cond_t, Let]
    by_cases h0 : 0 ≤ acts[i]
    · rw [cond_of (by simpa using h0)]
      exact ih k (i + 1) _ s (by omega) (by omega) (by omega) (by omega) (by rw [ux_stS_pos h0]; exact hinv)
    rw [cond_no (c := decide (acts[i] ≥ 0)) (by simpa using h0)]
    by_cases h1 : acts[i] = -1
    · have hb : (acts[i] == -1) = true := by simpa using h1
      have hst : stS l acts[i] = acS l := by unfold stS; rw [if_neg h0, if_pos h1]
      simp only [hb, cond_t, hst]
      by_cases hg : grS l 0 < 0
      · have hac : acS l = (l, -1) := by unfold acS; rw [if_pos hg]
        rw [hac]
        simp only [show decide ((-1 : Int) ≥ 0) = false from rfl, cond_f]
        exact ih k (i + 1) l s (by omega) (by omega) hl (by omega) hinv
      · have hac : acS l = (stD l (grS l 0) (false, true), grS l 0) := by unfold acS; rw [if_neg hg]
        have hux := ux_ack l 0 (by omega)
        simp only [Int.ofNat_zero, Int.sub_zero] at hux
        rw [hac]
        simp only [show decide (grS l 0 ≥ 0) = true by simp; omega, cond_t]
        have hm : mayBe (s.length + [grS l 0].length) 8 = true := mayBe_of (by simp; omega) (by simp; omega)
        have go := ih k (i + 1) (stD l (grS l 0) (false, true)) (s ++ [grS l 0]) (by omega) (by omega) (by rw [stD_length]; exact hl) (by simp; omega) (by rw [List.reverse_append, hinv]; exact hux.symm)
        by_cases hs0 : s.length = 0
        · rw [cond_no (c := decide ((s.length : Int) > 0)) (decide_eq_false (by omega))]
          simp only [cond_f, hm, cond_t]
          exact go
        · have hlast : s.length - 1 < s.length := by omega
          have hw : IntKind.wrap .i64 ((s.length : Int) - 1) = ((s.length - 1 : Nat) : Int) := by rw [wrap_i64 (by omega) (by omega)]; omega
          have hmem : s[s.length - 1] ∈ uxS l 0 := by rw [← hinv]; simp
          have hlt2 := gr_below l 0 (by omega) _ hmem
          rw [cond_of (c := decide ((s.length : Int) > 0)) (decide_eq_true (by omega)), hw, cond_of (inR_nat hlast), rdD_nat s hlast]
          simp only [show decide (s[s.length - 1] ≤ grS l 0) = false by simp; omega, cond_f, hm, cond_t]
          exact go
    · have hb : (acts[i] == -1) = false := by simpa using h1
      have hst : stS l acts[i] = reS l := by unfold stS; rw [if_neg h0, if_neg h1]
      simp only [hb, cond_f, hst]
      by_cases hg : fuS l 0 < 0
      · have hre : reS l = (l, -1) := by unfold reS; rw [if_pos hg]
        rw [hre]
        simp only [show decide ((-1 : Int) ≥ 0) = false from rfl, cond_f]
        have hux0 : uxS l 0 = [] := by
          rw [fu_ux] at hg
          cases h : uxS l 0 with
          | nil => rfl
          | cons a t =>
            have := ux_ge l 0 a (by rw [h]; simp)
            simp [h] at hg
            omega
        have hs0 : s.length = 0 := by
          rw [hux0] at hinv
          have := congrArg List.length hinv
          simpa using this
        rw [cond_no (c := ((s.length : Int) != 0)) (by rw [show (s.length : Int) = 0 by omega]; rfl)]
        exact ih k (i + 1) l s (by omega) (by omega) hl (by omega) hinv
      · have hre : reS l = (stD l (fuS l 0) ((rdD l (fuS l 0)).1, false), fuS l 0) := by unfold reS; rw [if_neg hg]
        rw [hre]
        simp only [show decide (fuS l 0 ≥ 0) = true by simp; omega, cond_t]
        cases hux : uxS l 0 with
        | nil => rw [fu_ux, hux] at hg; simp at hg
        | cons a t =>
          have hfa : fuS l 0 = a := by rw [fu_ux, hux]; rfl
          have hsl : s = t.reverse ++ [a] := by
            have := congrArg List.reverse hinv
            rw [List.reverse_reverse, hux, List.reverse_cons] at this
            exact this
          have hslen : s.length = t.length + 1 := by rw [hsl]; simp
          have hlast : s.length - 1 < s.length := by omega
          have hw : IntKind.wrap .i64 ((s.length : Int) - 1) = ((s.length - 1 : Nat) : Int) := by rw [wrap_i64 (by omega) (by omega)]; omega
          have hget : s[s.length - 1] = a := by
            simp only [hslen, hsl]
            simp
          have hnext := ux_reti l 0 a t (rdD l (fuS l 0)).1 hux
          simp only [Int.ofNat_zero, Int.sub_zero] at hnext
          rw [cond_no (c := ((s.length : Int) == 0)) (by simp only [beq_eq_false_iff_ne, ne_eq]; omega), hw, cond_of (inR_nat hlast), rdD_nat s hlast, hget, hfa]
          simp only [bne_self_eq_false, cond_f]
          rw [cond_of (cutR_of (by omega) (by omega) (by omega)), cutL_nat]
          refine ih k (i + 1) _ _ (by omega) (by omega) (by rw [stD_length]; exact hl) (by simp; omega) ?_
          rw [hfa] at hnext
          rw [hnext]
          have : s.take (s.length - 1) = t.reverse := by
            simp only [hslen, hsl]
            simp
          rw [this, List.reverse_reverse]
theorem stacks_l1 (K : Nat) (p0 : Int) (p1 : List Int) (l : List Lk) (s : List Int) (hl : l.length ≤ 300) : ∀ (m k i : Nat) (c : Int), i + m = l.length → m < k → 0 ≤ c → c ≤ i → charabanclaw26_ChainStacks_5.l1 K p0 p1 l s k c (i : Int) = some (c + ((uxS (l.drop i) i).length : Int)) := by
  intro m
  induction m with
  | zero =>
    intro k i c hi hk h0 hc
    obtain ⟨k, rfl⟩ : ∃ j, k = j + 1 := ⟨k - 1, by omega⟩
    rw [charabanclaw26_ChainStacks_5.l1, cond_no (by simp; omega), List.drop_of_length_le (by omega)]
    simp [uxS]
  | succ m ih =>
    intro k i c hi hk h0 hc
    obtain ⟨k, rfl⟩ : ∃ j, k = j + 1 := ⟨k - 1, by omega⟩
    have hlt : i < l.length := by omega
    rw [charabanclaw26_ChainStacks_5.l1, cond_of (by simp; omega), cond_of (inR_nat hlt), rdD_nat l hlt, wrap_nat (by omega), wrap_i64 (x := c + 1) (by omega) (by omega), drop_at hlt]
    simp only [uxS]
    rcases Bool.eq_false_or_eq_true (l[i]).2 with h | h <;> simp only [h, cond_t, cond_f, if_true, Bool.false_eq_true, if_false]
    · rw [ih k (i + 1) (c + 1) (by omega) (by omega) (by omega) (by omega)]
      simp only [List.length_cons]
      congr 1
      omega
    · rw [ih k (i + 1) c (by omega) (by omega) (by omega) (by omega)]
theorem band15 (x : Int) : 0 ≤ band .i64 x 15 ∧ band .i64 x 15 ≤ 15 := by
  have h : (BitVec.ofInt IntKind.i64.bits x &&& BitVec.ofInt IntKind.i64.bits 15).toNat ≤ 15 := by
    rw [BitVec.toNat_and]
    exact Nat.le_trans Nat.and_le_right (by decide)
  unfold band
  rw [wrap_i64 (by omega) (by omega)]
  omega
theorem ux_none : ∀ (n i : Nat), uxS (List.replicate n (false, false)) i = []
  | 0, i => rfl
  | n + 1, i => by simp only [List.replicate_succ, uxS, Bool.false_eq_true, if_false]; exact ux_none n (i + 1)
theorem ChainStacks (a0 : Int) (a1 : List Int) (w0 : (Lit.int .i64 a0).wf = true) (w1 : (a1.length * 8 ≤ 140737488351232 ∧ ∀ x ∈ a1, (Lit.int .i64 x).wf = true)) : ∃ K, charabanclaw26_ChainStacks_5.f K a0 a1 = some true := by
  refine ⟨400, ?_⟩
  unfold charabanclaw26_ChainStacks_5.f
  rw [awake_eq]
  simp only [Option.bind_some, Bool.not_true, cond_f]
  by_cases h : (a1.length : Int) > 200
  · simp [h]
  rw [cond_no (c := decide ((a1.length : Int) > 200)) (by simp; omega)]
  have hb := band15 a0
  rw [cond_of (makeR_of hb.1 (by omega) (by omega))]
  obtain ⟨l, s, h1, h2, h3⟩ := stacks_l0 400 a0 a1 (by omega) (by omega) a1.length 400 0 (List.replicate (Int.toNat (band .i64 a0 15)) (false, false)) [] (by omega) (by omega) (by simp; omega) (by simp) (by rw [ux_none]; rfl)
  simp only [Int.ofNat_zero] at h1
  erw [h1]
  have h4 := stacks_l1 400 a0 a1 l s h3 l.length 400 0 0 (by omega) (by omega) (by omega) (by omega)
  simp only [Int.ofNat_zero, List.drop_zero, Int.zero_add] at h4
  simp only [Option.bind_some, Lp.elim]
  erw [h4]
  rw [← h2]
  simp
end Go.Proofs.Ytngcadmhnbpgjaa.Pure
