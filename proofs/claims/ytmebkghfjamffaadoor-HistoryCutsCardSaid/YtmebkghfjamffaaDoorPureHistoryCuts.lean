/- The plain law of HistoryCuts. -/
import Derived.Test.YtmebkghfjamffaaDoorHisHistoryCuts
import Derived.Test.YtmebkghfjamffaaDoorHisLibF
set_option maxHeartbeats 4000000
set_option linter.unusedVariables false
namespace Go.Proofs.YtmebkghfjamffaaDoor.Pure
open Go.RowKit Go.Eng Go.Proofs.YtmebkghfjamffaaDoor.His
theorem u16w {x : Int} (h : (Lit.int .u16 x).wf = true) : 0 ≤ x ∧ x ≤ 65535 := by simpa [Lit.wf, IntKind.min, IntKind.max, IntKind.bits, IntKind.signed] using h
theorem i64w {x : Int} (h : (Lit.int .i64 x).wf = true) : i64 x := by simpa [i64, Lit.wf, IntKind.min, IntKind.max, IntKind.bits, IntKind.signed] using h
theorem same_t (l : List Ev) (m : Int) (t : List Tn) (ht : t.length ≤ 900) : ∀ (k i : Nat), i ≤ t.length → t.length - i < k → charabanclaw29_HistoryCuts_4.l0 1000 l m t t k (i : Int) = some (Lp.go ())
  | 0, i, h1, h2 => by omega
  | k + 1, i, h1, h2 => by
    rw [charabanclaw29_HistoryCuts_4.l0]
    by_cases hi : i < t.length
    · rw [decide_eq_true (by omega), cond_t, inR_nat hi, cond_t, cond_t, wrap_nat (by omega)]
      simp only [bne_self_eq_false, cond_f, Let]
      exact same_t l m t ht k (i + 1) (by omega) (by omega)
    · rw [decide_eq_false (by omega), cond_f]
theorem lines_l (l : List Ev) (m : Int) (hl : l.length ≤ 900) (h64 : ∀ e ∈ l, i64 e.1) : ∀ (k i : Nat), i ≤ l.length → l.length - i < k → charabanclaw29_HistoryCuts_4.l1 1000 l m k (i : Int) = some (Lp.go ())
  | 0, i, h1, h2 => by omega
  | k + 1, i, h1, h2 => by
    rw [charabanclaw29_HistoryCuts_4.l1]
    by_cases hi : i < l.length
    · obtain ⟨s, s1, s2⟩ := line_at l[i] (h64 _ (List.getElem_mem hi))
      rw [decide_eq_true (by omega), cond_t, cond_of (inR_nat hi), rdD_nat l hi, s1, s2, wrap_nat (by omega)]
      simp only [Option.bind_some, beq_self_eq_true, Bool.not_true, cond_f]
      exact lines_l l m hl h64 k (i + 1) (by omega) (by omega)
    · rw [decide_eq_false (by omega), cond_f]
theorem tens_len : ∀ l : List Ev, (tens l).length ≤ l.length
  | [] => by simp [tens]
  | e :: l => by
    have := tens_len l
    rw [tens]
    split
    · simp
    · rename_i t r h
      rw [h] at this
      split <;> simp at this ⊢ <;> omega
theorem HistoryCuts (a0 : List (Int × Int × Int × Int × Int × Int)) (a1 : Int) (w0 : (a0.length * 48 ≤ 140737488351232 ∧ ∀ x ∈ a0, ((Lit.int .i64 x.1).wf = true ∧ ((Lit.int .i64 x.2.1).wf = true ∧ ((Lit.int .i64 x.2.2.1).wf = true ∧ ((Lit.int .u16 x.2.2.2.1).wf = true ∧ ((Lit.int .i64 x.2.2.2.2.1).wf = true ∧ (Lit.int .u8 x.2.2.2.2.2).wf = true))))))) (w1 : (Lit.int .i64 a1).wf = true) : ∃ K, charabanclaw29_HistoryCuts_4.f K a0 a1 = some true := by
  have h64 : ∀ e ∈ a0, i64 e.1 := fun e he => i64w (w0.2 e he).1
  refine ⟨1000, ?_⟩
  unfold charabanclaw29_HistoryCuts_4.f
  rw [awake29]
  simp only [Option.bind_some, Bool.not_true, cond_f]
  by_cases hl : a0.length ≤ 100
  · have ht := tens_len a0
    have ho := ofL_len a0 a1
    rw [cond_no (by simp; omega), tensH a0 (by omega), tensQ a0 (by omega), countH a0 (by omega), countQ a0 (by omega), meetH a0 (by omega), meetQ a0 (by omega), ofH a0 a1 (by omega), ofQ a0 a1 (by omega)]
    simp only [Option.bind_some, Let, bne_self_eq_false, cond_f, beq_self_eq_true, Bool.not_true]
    rw [events_at (ofL a0 a1) (by omega)]
    have e1 := same_t a0 a1 (tens a0) (by omega) 1000 0 (by omega) (by omega)
    have e2 := lines_l a0 a1 (by omega) h64 1000 0 (by omega) (by omega)
    rw [show (Nat.beq (cnts a0).length 4 && Nat.beq (cnts a0).length 4) = true from rfl, cond_t]
    simp only [Option.bind_some, Bool.not_true, cond_f]
    erw [e1]
    simp only [Option.bind_some, Lp.elim]
    erw [e2]
    rfl
  · rw [cond_of (by simp; omega)]
end Go.Proofs.YtmebkghfjamffaaDoor.Pure
