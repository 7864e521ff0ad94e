/- The plain law of CycleWaits. -/
import Derived.Test.YtajnhlkkbhobiaaDoorCycCycleWaits
import Derived.Test.YtajnhlkkbhobiaaDoorCycLibD
namespace Go.Proofs.YtajnhlkkbhobiaaDoor.Pure
open Go.RowKit Go.Eng Go.Proofs.YtajnhlkkbhobiaaDoor.Cyc
theorem held_l (k a b t : Int) (ws : List Bool) (x y s : Int) (hs : 0 < s) (hs4 : s ≤ 4) (hw : ws.length ≤ 900) : ∀ (f h : Nat), h + (s - 1).toNat ≤ ws.length + 4 → ws.length + 4 - h < f → charabanclaw17_CycleWaits_5.l0 1000 k a b t ws x y s f (h : Int) = some ((h + held (ws.drop ((s - 1).toNat + h)) : Nat) : Int)
  | 0, h, h1, h2 => by omega
  | f + 1, h, h1, h2 => by
    rw [charabanclaw17_CycleWaits_5.l0]
    simp only [Let]
    rw [decide_eq_true (show s > 0 by omega), cond_t, wrap_i64 (x := s - 1) (by omega) (by omega), show s - 1 + (h : Int) = (((s - 1).toNat + h : Nat) : Int) by omega, wrap_i64 (x := (((s - 1).toNat + h : Nat) : Int)) (by omega) (by omega)]
    by_cases hi : (s - 1).toNat + h < ws.length
    · rw [decide_eq_true (by omega), cond_t, cond_of (inR_nat hi), rdD_nat ws hi, drop_at hi]
      cases hx : ws[(s - 1).toNat + h] with
      | true =>
        rw [cond_t, wrap_nat (by omega), held_l k a b t ws x y s hs hs4 hw f (h + 1) (by omega) (by omega)]
        simp only [held, if_true]
        rw [show (s - 1).toNat + (h + 1) = (s - 1).toNat + h + 1 by omega, show h + 1 + held (ws.drop ((s - 1).toNat + h + 1)) = h + (held (ws.drop ((s - 1).toNat + h + 1)) + 1) by omega]
      | false =>
        simp [held]
    · rw [decide_eq_false (by omega), cond_f, List.drop_of_length_le (by omega)]
      simp [held]
theorem CycleWaits (a0 : Int × Int × Int × Int) (a1 : List Bool) (w0 : ((Lit.int .i64 a0.1).wf = true ∧ ((Lit.int .u16 a0.2.1).wf = true ∧ ((Lit.int .u8 a0.2.2.1).wf = true ∧ (Lit.int .i64 a0.2.2.2).wf = true)))) (w1 : (a1.length * 1 ≤ 140737488351232 ∧ ∀ x ∈ a1, True)) : ∃ K, charabanclaw17_CycleWaits_5.f K a0.1 a0.2.1 a0.2.2.1 a0.2.2.2 a1 = some true := by
  obtain ⟨k, a, b, t⟩ := a0
  refine ⟨1000, ?_⟩
  unfold charabanclaw17_CycleWaits_5.f
  rw [awake17]
  simp only [Option.bind_some, Bool.not_true, cond_f]
  by_cases hl : a1.length ≤ 100
  · rw [cond_no (by simp; omega), (check_at k a b t).2, (sample_at k).2]
    by_cases ho : okC k t
    · obtain ⟨l, h1, h2, h3, h4, h5⟩ := all_at (k := k) (a := a) (b := b) (t := t) (ws := a1) (by omega) ho
      have h6 := hd_le k a1
      have h7 := ho.2.2.2
      have h8 := ho.2.2.1
      have h9 := sm_in k
      have e0 : ((0 : Int) != 0) = false := rfl
      rw [h1, h3, if_pos ho]
      simp only [Option.bind_some, e0, cond_f]
      by_cases hs : 0 < sm k
      · have g := held_l k a b t a1 ((t.toNat + hd k a1 : Nat) : Int) (sm k + hd k a1 + 1) (sm k) hs (by omega) (by omega) 1000 0
        have hh : hd k a1 = held (a1.drop (sm k - 1).toNat) := by unfold hd; rw [if_pos hs]
        by_cases hq : (sm k - 1).toNat ≤ a1.length + 4
        · have g := g (by omega) (by omega)
          rw [Nat.zero_add, Nat.add_zero, ← hh] at g
          rw [if_pos hs]
          erw [g]
          simp only [Option.bind_some]
          rw [show (sm k == 0) = false by simp; omega, cond_f, wrap_i64 (x := t + _) (by omega) (by omega), wrap_i64 (x := sm k + _) (by omega) (by omega), wrap_i64 (x := sm k + _ + 1) (by omega) (by omega), h5]
          rw [show (((t.toNat + hd k a1 : Nat) : Int) == t + (hd k a1 : Int)) = true by simp; omega]
          simp
        · omega
      · have g : charabanclaw17_CycleWaits_5.l0 1000 k a b t a1 ((t.toNat + hd k a1 : Nat) : Int) (if 0 < sm k then sm k + hd k a1 + 1 else 0) (sm k) 1000 0 = some 0 := by
          rw [charabanclaw17_CycleWaits_5.l0]
          simp only [Let]
          rw [decide_eq_false (show ¬ sm k > 0 by omega), cond_f]
        rw [g]
        simp only [Option.bind_some]
        have hz : hd k a1 = 0 := by unfold hd; rw [if_neg hs]
        rw [show (sm k == 0) = true by simp; omega, cond_t, hz, if_neg hs, show (((t.toNat + 0 : Nat) : Int) == t) = true by simp; omega]
        rfl
    · obtain ⟨h1, h2, h3, h4⟩ := none_at (k := k) (a := a) (b := b) (t := t) (ws := a1) ho
      rw [h1, h3, if_neg ho]
      rfl
  · rw [cond_of (by simp; omega)]
end Go.Proofs.YtajnhlkkbhobiaaDoor.Pure
