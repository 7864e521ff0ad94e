/- The plain law of HistoryRows. -/
import Derived.Test.YtmebkghfjamffaaDoorHisHistoryRows
import Derived.Test.YtmebkghfjamffaaDoorHisLibF
set_option maxHeartbeats 4000000
set_option linter.unusedVariables false
namespace Go.Proofs.YtmebkghfjamffaaDoor.Pure
open Go.RowKit Go.Eng Go.Proofs.YtmebkghfjamffaaDoor.His
theorem u16w {x : Int} (h : (Lit.int .u16 x).wf = true) : 0 ≤ x ∧ x ≤ 65535 := by simpa [Lit.wf, IntKind.min, IntKind.max, IntKind.bits, IntKind.signed] using h
theorem i64w {x : Int} (h : (Lit.int .i64 x).wf = true) : i64 x := by simpa [i64, Lit.wf, IntKind.min, IntKind.max, IntKind.bits, IntKind.signed] using h
theorem in_run (l : List Ev) (T : List Tn) (at_ i n : Nat) (t : Tn) (hT : T.length ≤ 900) (hl : l.length ≤ 900) (hi : i < T.length) (ht : rdD T (i : Int) = t) (hn : t.2.2.2 = (n : Int)) (hat : at_ + n ≤ l.length) (hm : ∀ k, (h : at_ + k < l.length) → k < n → (l[at_ + k]).2.1 = t.1) : ∀ (f k : Nat), k ≤ n → n - k < f → charabanclaw29_HistoryRows_5.l0 1000 l T (at_ : Int) (i : Int) f (k : Int) = some (Lp.go ())
  | 0, k, h1, h2 => by omega
  | f + 1, k, h1, h2 => by
    rw [charabanclaw29_HistoryRows_5.l0, cond_of (inR_nat hi), ht, hn]
    by_cases hk : k < n
    · rw [decide_eq_true (by omega), cond_t, show (at_ : Int) + (k : Int) = ((at_ + k : Nat) : Int) by omega, wrap_i64 (by omega) (by omega), cond_of (inR_nat (by omega)), rdD_nat l (show at_ + k < l.length by omega), hm k (by omega) hk, bne_self_eq_false, cond_f, wrap_nat (by omega)]
      exact in_run l T at_ i n t hT hl hi ht hn hat hm f (k + 1) (by omega) (by omega)
    · rw [decide_eq_false (by omega), cond_f]
theorem rows_l (l : List Ev) (T : List Tn) (hl : l.length ≤ 900) (hT : T.length ≤ 900) : ∀ (f i at_ : Nat), T.drop i = tens (l.drop at_) → at_ ≤ l.length → i ≤ T.length → T.length - i < f → (0 < i → ∀ h : at_ < l.length, (rdD T ((i - 1 : Nat) : Int)).1 ≠ (l[at_]).2.1) →
    charabanclaw29_HistoryRows_5.l1 1000 l T f (at_ : Int) (i : Int) = some (Lp.go (l.length : Int))
  | 0, i, at_, h1, h2, h3, h4, h5 => by omega
  | f + 1, i, at_, h1, h2, h3, h4, h5 => by
    rw [charabanclaw29_HistoryRows_5.l1]
    by_cases hi : i < T.length
    · rw [drop_at hi] at h1
      obtain ⟨n, g1, g2, g3, g4, g5, g6, g7, g8⟩ := tens_head _ _ _ h1.symm
      generalize ht : T[i] = t at *
      have hlen : (l.drop at_).length = l.length - at_ := List.length_drop
      have hrd : rdD T (i : Int) = t := by rw [rdD_nat T hi, ht]
      have hat : at_ + n ≤ l.length := by omega
      have hm : ∀ k, (h : at_ + k < l.length) → k < n → (l[at_ + k]).2.1 = t.1 := fun k hk hkn => by
        have := g4 k (by omega) hkn
        rwa [List.getElem_drop] at this
      have hfrom : t.2.1 = (l[at_]'(by omega)).1 := by
        have := g5 (by omega)
        rw [this, List.getElem_drop]
        rfl
      have hto : t.2.2.1 = (l[at_ + n - 1]'(by omega)).1 := by
        have := g6 (by omega)
        rw [this, List.getElem_drop]
        congr 2
        omega
      have h0 : (l[at_]'(by omega)).2.1 = t.1 := hm 0 (by omega) (by omega)
      have e0 := in_run l T at_ i n t hT hl hi hrd g1 hat hm 1000 0 (by omega) (by omega)
      have ih := rows_l l T hl hT f (i + 1) (at_ + n) (by rw [g7, List.drop_drop]) hat (by omega) (by omega) (fun _ h => by
        have := g8 (by omega)
        rw [List.getElem_drop] at this
        rw [show i + 1 - 1 = i by omega, hrd]
        exact fun h2 => this h2.symm)
      have wa : IntKind.wrap .i64 ((at_ : Int) + (n : Int)) = ((at_ + n : Nat) : Int) := by rw [wrap_i64 (by omega) (by omega)]; omega
      have wb : IntKind.wrap .i64 (((at_ + n : Nat) : Int) - 1) = ((at_ + n - 1 : Nat) : Int) := by rw [wrap_i64 (by omega) (by omega)]; omega
      rw [decide_eq_true (show (i : Int) < (T.length : Int) by omega), cond_t, cond_of (inR_nat hi), hrd, g1, wa, wb, wrap_nat (i := i) (by omega)]
      simp only [Let]
      rw [decide_eq_false (show ¬ (n : Int) < 1 by omega), decide_eq_false (show ¬ ((at_ + n : Nat) : Int) > (l.length : Int) by omega), inR_nat (show at_ < l.length by omega), inR_nat (show at_ + n - 1 < l.length by omega), rdD_nat l (show at_ < l.length by omega), rdD_nat l (show at_ + n - 1 < l.length by omega), hfrom, hto]
      simp only [bne_self_eq_false, cond_f, cond_t]
      have e1 : (charabanclaw29_HistoryRows_5.l0 1000 l T (at_ : Int) (i : Int) 1000 0) = some (Lp.go ()) := e0
      rw [e1]
      simp only [Option.bind_some, Lp.elim, ih]
      by_cases hz : 0 < i
      · have hne := h5 hz (by omega)
        rw [h0] at hne
        rw [decide_eq_true (show (i : Int) > 0 by omega), cond_t, wrap_i64 (x := (i : Int) - 1) (by omega) (by omega), show (i : Int) - 1 = ((i - 1 : Nat) : Int) by omega, cond_of (inR_nat (by omega)), show (t.1 == (rdD T ((i - 1 : Nat) : Int)).1) = false by simpa using fun h => hne h.symm, cond_f]
      · rw [decide_eq_false (show ¬ (i : Int) > 0 by omega), cond_f]
    · have hz : tens (l.drop at_) = [] := by rw [← h1]; exact List.drop_of_length_le (by omega)
      have := tens_nil hz
      have h6 : l.length ≤ at_ := by simpa using this
      rw [decide_eq_false (by omega), cond_f, show at_ = l.length by omega]
theorem sum_le : ∀ l : List Ev, cnt l 0 + cnt l 1 + cnt l 2 + cnt l 3 ≤ l.length := by
  have key : ∀ l : List Ev, cnt l.reverse 0 + cnt l.reverse 1 + cnt l.reverse 2 + cnt l.reverse 3 ≤ l.length := by
    intro l
    induction l with
    | nil => simp [cnt, ofL]
    | cons e l ih =>
      rw [List.reverse_cons]
      simp only [cnt_snoc, List.length_cons]
      by_cases h0 : e.2.1 = 0
      · rw [if_pos h0, if_neg (by omega), if_neg (by omega), if_neg (by omega)]; omega
      by_cases h1 : e.2.1 = 1
      · rw [if_neg h0, if_pos h1, if_neg (by omega), if_neg (by omega)]; omega
      by_cases h2 : e.2.1 = 2
      · rw [if_neg h0, if_neg h1, if_pos h2, if_neg (by omega)]; omega
      rw [if_neg h0, if_neg h1, if_neg h2]
      split <;> omega
  intro l
  have := key l.reverse
  rwa [List.reverse_reverse, List.length_reverse] at this
theorem tens_len : ∀ l : List Ev, (tens l).length ≤ l.length
  | [] => by simp [tens]
  | e :: l => by
    have := tens_len l
    rw [tens]
    split
    · simp
    · rename_i t r h
      rw [h] at this
      split <;> simp at this ⊢ <;> omega
theorem HistoryRows (a0 : List (Int × Int × Int × Int × Int × Int)) (w0 : (a0.length * 48 ≤ 140737488351232 ∧ ∀ x ∈ a0, ((Lit.int .i64 x.1).wf = true ∧ ((Lit.int .i64 x.2.1).wf = true ∧ ((Lit.int .i64 x.2.2.1).wf = true ∧ ((Lit.int .u16 x.2.2.2.1).wf = true ∧ ((Lit.int .i64 x.2.2.2.2.1).wf = true ∧ (Lit.int .u8 x.2.2.2.2.2).wf = true))))))) : ∃ K, charabanclaw29_HistoryRows_5.f K a0 = some true := by
  refine ⟨1000, ?_⟩
  unfold charabanclaw29_HistoryRows_5.f
  rw [awake29]
  simp only [Option.bind_some, Bool.not_true, cond_f]
  by_cases hl : a0.length ≤ 100
  · have ht := tens_len a0
    have hs := sum_le a0
    have hc : ∀ m, 0 ≤ cnt a0 m ∧ cnt a0 m ≤ 100 := fun m => by have := ofL_len a0 m; unfold cnt; omega
    have c0 := hc 0; have c1 := hc 1; have c2 := hc 2; have c3 := hc 3
    have e1 := rows_l a0 (tens a0) (by omega) (by omega) 1000 0 0 (by simp) (by omega) (by omega) (by omega) (fun h => by omega)
    rw [cond_no (by simp; omega), tensH a0 (by omega), Option.bind_some]
    erw [e1]
    simp only [Option.bind_some, Lp.elim]
    rw [countH a0 (by omega), Option.bind_some, show Nat.beq (cnts a0).length 4 = true from rfl, cond_t]
    have st : ∀ (k m : Nat) (s x : Int), m < 4 → rdD (cnts a0) (m : Int) = x → x = cnt a0 m → 0 ≤ s → s ≤ 1000 → charabanclaw29_HistoryRows_5.l2 1000 a0 (a0.length : Int) (cnts a0) (k + 1) s (m : Int) = charabanclaw29_HistoryRows_5.l2 1000 a0 (a0.length : Int) (cnts a0) k (s + x) ((m + 1 : Nat) : Int) := by
      intro k m s x hm hx hxc h0 h1
      have := hc m
      rw [charabanclaw29_HistoryRows_5.l2, decide_eq_true (by omega), cond_t, cond_of (inR_nat hm), cond_of (show inR (m : Int) (cnts a0).length = true from inR_nat hm), ofH a0 _ (by omega), Option.bind_some, hx, hxc]
      unfold cnt
      rw [bne_self_eq_false, cond_f, wrap_nat (by omega)]
      unfold cnt at this
      rw [wrap_i64 (by omega) (by omega)]
    have s0 := st 999 0 0 (cnt a0 0) (by omega) rfl rfl (by omega) (by omega)
    have s1 := st 998 1 (0 + cnt a0 0) (cnt a0 1) (by omega) rfl rfl (by omega) (by omega)
    have s2 := st 997 2 (0 + cnt a0 0 + cnt a0 1) (cnt a0 2) (by omega) rfl rfl (by omega) (by omega)
    have s3 := st 996 3 (0 + cnt a0 0 + cnt a0 1 + cnt a0 2) (cnt a0 3) (by omega) rfl rfl (by omega) (by omega)
    have s4 : charabanclaw29_HistoryRows_5.l2 1000 a0 (a0.length : Int) (cnts a0) 996 (0 + cnt a0 0 + cnt a0 1 + cnt a0 2 + cnt a0 3) ((3 + 1 : Nat) : Int) = some (Lp.go (0 + cnt a0 0 + cnt a0 1 + cnt a0 2 + cnt a0 3)) := by rw [charabanclaw29_HistoryRows_5.l2]; rfl
    have hall : charabanclaw29_HistoryRows_5.l2 1000 a0 (a0.length : Int) (cnts a0) 1000 0 0 = some (Lp.go (0 + cnt a0 0 + cnt a0 1 + cnt a0 2 + cnt a0 3)) := by
      refine Eq.trans s0 (Eq.trans s1 (Eq.trans s2 (Eq.trans s3 s4)))
    rw [hall]
    simp only [Option.bind_some, Lp.elim, beq_self_eq_true, cond_t]
    rw [decide_eq_true (by omega)]
  · rw [cond_of (by simp; omega)]
end Go.Proofs.YtmebkghfjamffaaDoor.Pure
