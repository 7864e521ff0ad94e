/- Cycles: how many states, and where a byte is taken. -/
import Derived.Test.YtajnhlkkbhobiaaDoorCycLibC
set_option linter.unusedVariables false
set_option linter.unusedSimpArgs false
namespace Go.Proofs.YtajnhlkkbhobiaaDoor.Cyc
open Go.RowKit Go.Eng
def held : List Bool → Nat
  | [] => 0
  | x :: xs => if x = true then held xs + 1 else 0
theorem go_late (k t : Int) (ho : okC k t) : ∀ (d f : Nat) (ws : List Bool) (n : Int) (i : Nat) (at_ : Int) (l : List ByteArray), (t - n).toNat = d → sm k ≤ n → n < t → d ≤ f →
    ∃ l', go k t f ws n i at_ l = some (l', i + d, if 0 < sm k ∧ n = sm k then ((i + 1 : Nat) : Int) else at_) ∧ l'.length = l.length + d
  | 0, f, ws, n, i, at_, l, h1, h2, h3, h4 => by omega
  | d + 1, 0, ws, n, i, at_, l, h1, h2, h3, h4 => by omega
  | d + 1, f + 1, ws, n, i, at_, l, h1, h2, h3, h4 => by
    rw [go, if_neg (by omega)]
    have hb : ((decide (0 < sm k) && (n + 1 == sm k + 1)) = true) = (0 < sm k ∧ n = sm k) := by simp
    by_cases hl : n + 1 = t
    · rw [if_pos hl]
      simp only [hb]
      exact ⟨_, by rw [show d = 0 by omega], by simp; omega⟩
    · rw [if_neg hl]
      obtain ⟨l', h5, h6⟩ := go_late k t ho d f ws.tail (n + 1) (i + 1) (if (decide (0 < sm k) && (n + 1 == sm k + 1)) = true then ((i + 1 : Nat) : Int) else at_) (l ++ [nm k (n + 1)]) (by omega) (by omega) (by omega) (by omega)
      refine ⟨l', ?_, by rw [h6]; simp; omega⟩
      rw [h5, if_neg (by omega), show i + 1 + d = i + (d + 1) by omega]
      simp only [hb]
theorem go_at (k t : Int) (ho : okC k t) (hs : 0 < sm k) : ∀ (ws : List Bool) (f : Nat) (i : Nat) (at_ : Int) (l : List ByteArray), (t - (sm k - 1)).toNat + ws.length ≤ f →
    ∃ l', go k t f ws (sm k - 1) i at_ l = some (l', i + (t - (sm k - 1)).toNat + held ws, ((i + held ws + 2 : Nat) : Int)) ∧ l'.length = l.length + (t - (sm k - 1)).toNat + held ws
  | ws, 0, i, at_, l, h => by have := ho.2.2.1; omega
  | [], f + 1, i, at_, l, h => by
    have h3 := ho.2.2.1
    rw [go, if_neg (by simp), if_neg (by omega), if_neg (by simp; omega), show sm k - 1 + 1 = sm k by omega]
    obtain ⟨l', h5, h6⟩ := go_late k t ho (t - sm k).toNat f [] (sm k) (i + 1) at_ (l ++ [nm k (sm k)]) rfl (by omega) (by omega) (by simp at h; omega)
    refine ⟨l', ?_, by rw [h6]; simp [held]; omega⟩
    rw [List.tail_nil, h5, if_pos ⟨hs, rfl⟩]
    simp only [held]
    rw [show i + 1 + (t - sm k).toNat = i + (t - (sm k - 1)).toNat + 0 by omega]
  | x :: xs, f + 1, i, at_, l, h => by
    have h3 := ho.2.2.1
    rw [go]
    cases x with
    | true =>
      rw [if_pos ⟨rfl, rfl⟩]
      obtain ⟨l', h5, h6⟩ := go_at k t ho hs xs f (i + 1) at_ (l ++ [TW]) (by simp at h; omega)
      refine ⟨l', ?_, by rw [h6]; simp [held]; omega⟩
      rw [List.tail_cons, h5]
      simp only [held, if_true]
      rw [show i + 1 + (t - (sm k - 1)).toNat + held xs = i + (t - (sm k - 1)).toNat + (held xs + 1) by omega, show i + 1 + held xs + 2 = i + (held xs + 1) + 2 by omega]
    | false =>
      rw [if_neg (by simp), if_neg (by omega), if_neg (by simp; omega), show sm k - 1 + 1 = sm k by omega]
      obtain ⟨l', h5, h6⟩ := go_late k t ho (t - sm k).toNat f xs (sm k) (i + 1) at_ (l ++ [nm k (sm k)]) rfl (by omega) (by omega) (by simp at h; omega)
      refine ⟨l', ?_, by rw [h6]; simp [held]; omega⟩
      rw [List.tail_cons, h5, if_pos ⟨hs, rfl⟩]
      simp only [held, Bool.false_eq_true, if_false]
      rw [show i + 1 + (t - sm k).toNat = i + (t - (sm k - 1)).toNat + 0 by omega]
theorem go_early (k t : Int) (ho : okC k t) (hs : 0 < sm k) : ∀ (d : Nat) (ws : List Bool) (f : Nat) (n : Int) (i : Nat) (at_ : Int) (l : List ByteArray), sm k - 1 - n = d → 0 ≤ n → (t - n).toNat + ws.length ≤ f →
    ∃ l', go k t f ws n i at_ l = some (l', i + (t - n).toNat + held (ws.drop d), ((i + d + held (ws.drop d) + 2 : Nat) : Int)) ∧ l'.length = l.length + (t - n).toNat + held (ws.drop d)
  | 0, ws, f, n, i, at_, l, h1, h2, h3 => by
    obtain rfl : n = sm k - 1 := by omega
    exact go_at k t ho hs ws f i at_ l h3
  | d + 1, ws, 0, n, i, at_, l, h1, h2, h3 => by have := ho.2.2.1; omega
  | d + 1, ws, f + 1, n, i, at_, l, h1, h2, h3 => by
    have h4 := ho.2.2.1
    rw [go, if_neg (by omega), if_neg (by omega), if_neg (by simp; omega)]
    obtain ⟨l', h5, h6⟩ := go_early k t ho hs d ws.tail f (n + 1) (i + 1) at_ (l ++ [nm k (n + 1)]) (by omega) (by omega) (by simp; omega)
    have hd : ws.tail.drop d = ws.drop (d + 1) := by rw [← List.drop_one, List.drop_drop, Nat.add_comm]
    rw [hd] at h5 h6
    refine ⟨l', ?_, by rw [h6]; simp; omega⟩
    rw [h5, show i + 1 + (t - (n + 1)).toNat + held (ws.drop (d + 1)) = i + (t - n).toNat + held (ws.drop (d + 1)) by omega, show i + 1 + d + held (ws.drop (d + 1)) + 2 = i + (d + 1) + held (ws.drop (d + 1)) + 2 by omega]
/-- All of it. -/
def hd (k : Int) (ws : List Bool) : Nat := if 0 < sm k then held (ws.drop (sm k - 1).toNat) else 0
theorem go_all (k t : Int) (ho : okC k t) (ws : List Bool) (hw : ws.length ≤ 900) : ∃ l, go k t 1000 ws 0 0 0 [] = some (l, t.toNat + hd k ws, if 0 < sm k then sm k + hd k ws + 1 else 0) ∧ l.length = t.toNat + hd k ws := by
  have h3 := ho.2.2.1
  have h4 := ho.2.2.2
  have h5 := sm_in k
  unfold hd
  by_cases hs : 0 < sm k
  · obtain ⟨l, h1, h2⟩ := go_early k t ho hs (sm k - 1).toNat ws 1000 0 0 0 [] (by omega) (by omega) (by omega)
    refine ⟨l, ?_, by rw [h2, if_pos hs]; simp⟩
    rw [h1, if_pos hs, if_pos hs, show 0 + (t - 0).toNat + held (ws.drop (sm k - 1).toNat) = t.toNat + held (ws.drop (sm k - 1).toNat) by simp]
    congr 3
    omega
  · obtain ⟨l, h1, h2⟩ := go_late k t ho t.toNat 1000 ws 0 0 0 [] (by simp) (by omega) (by omega) (by omega)
    refine ⟨l, ?_, by rw [h2, if_neg hs]; simp⟩
    rw [h1, if_neg hs, if_neg hs, if_neg (by omega)]
    simp
theorem held_le : ∀ ws : List Bool, held ws ≤ ws.length
  | [] => by simp [held]
  | x :: xs => by have := held_le xs; simp only [held]; split <;> simp <;> omega
theorem hd_le (k : Int) (ws : List Bool) : hd k ws ≤ ws.length := by
  unfold hd
  split
  · exact Nat.le_trans (held_le _) (by simp)
  · omega
theorem all_at {k a b t : Int} {ws : List Bool} (hw : ws.length ≤ 900) (ho : okC k t) : ∃ l, cycle_Take_18.f 1000 k a b t ws = some (((t.toNat + hd k ws : Nat) : Int), if 0 < sm k then sm k + hd k ws + 1 else 0) ∧
    charabancref17_Take_19.f 1000 k a b t ws = some (((t.toNat + hd k ws : Nat) : Int), if 0 < sm k then sm k + hd k ws + 1 else 0) ∧ cycle_Names_21.f 1000 k a b t ws = some l ∧ charabancref17_Names_22.f 1000 k a b t ws = some l ∧ l.length = t.toNat + hd k ws := by
  have h3 := ho.2.2.1
  have h4 := ho.2.2.2
  have h5 := sm_in k
  obtain ⟨l, h1, h2⟩ := go_all k t ho ws hw
  obtain ⟨w1, g1⟩ := take_l k a b t ws ho 1000 ws 0 0 0 0 [] _ _ _ (by omega) (by omega) (by omega) h1
  obtain ⟨w2, g2⟩ := names_l k a b t ws ho 1000 ws 0 0 0 0 [] _ _ _ (by omega) (by omega) (by omega) (by simp) h1
  have g3 := walk_l k a b t ws ho (by omega) 1000 ws 0 0 0 0 [] _ _ _ (by simp) (by omega) (by omega) (by omega) (by simp) h1
  have e0 : ((0 : Int) != 0) = false := rfl
  refine ⟨l, ?_, ?_, ?_, ?_, h2⟩
  · unfold cycle_Take_18.f
    rw [(check_at k a b t).1, if_pos ho]
    simp only [Option.bind_some, e0, cond_f]
    erw [g1]
    rfl
  · unfold charabancref17_Take_19.f charabancref17_walk_43.f
    rw [(check_at k a b t).2, if_pos ho]
    simp only [Option.bind_some, e0, cond_f]
    erw [g3]
    simp only [Option.bind_some, h2]
  · unfold cycle_Names_21.f
    rw [(check_at k a b t).1, if_pos ho]
    simp only [Option.bind_some, e0, cond_f]
    erw [g2]
    rfl
  · unfold charabancref17_Names_22.f charabancref17_walk_43.f
    rw [(check_at k a b t).2, if_pos ho]
    simp only [Option.bind_some, e0, cond_f]
    erw [g3]
    rfl
theorem none_at {k a b t : Int} {ws : List Bool} (ho : ¬ okC k t) : cycle_Take_18.f 1000 k a b t ws = some (0, 0) ∧ charabancref17_Take_19.f 1000 k a b t ws = some (0, 0) ∧ cycle_Names_21.f 1000 k a b t ws = some [] ∧ charabancref17_Names_22.f 1000 k a b t ws = some [] := by
  unfold cycle_Take_18.f charabancref17_Take_19.f cycle_Names_21.f charabancref17_Names_22.f charabancref17_walk_43.f
  rw [(check_at k a b t).1, (check_at k a b t).2, if_neg ho]
  exact ⟨rfl, rfl, rfl, rfl⟩
theorem same_l (l : List ByteArray) (hl : l.length ≤ 900) : ∀ (k i : Nat), i ≤ l.length → l.length - i < k → charabancref09_Same_20.l0 1000 l l k (i : Int) = some (Lp.go ())
  | 0, i, h1, h2 => by omega
  | k + 1, i, h1, h2 => by
    rw [charabancref09_Same_20.l0]
    by_cases hi : i < l.length
    · rw [decide_eq_true (show (i : Int) < (l.length : Int) by omega), cond_t, inR_nat hi, cond_t, cond_t, wrap_nat (by omega)]
      simp only [beq_self_eq_true, Bool.not_true, cond_f]
      exact same_l l hl k (i + 1) (by omega) (by omega)
    · rw [decide_eq_false (show ¬ (i : Int) < (l.length : Int) by omega), cond_f]
theorem same_at (l : List ByteArray) (hl : l.length ≤ 900) : charabancref09_Same_20.f 1000 l l = some true := by
  unfold charabancref09_Same_20.f
  have h := same_l l hl 1000 0 (by omega) (by omega)
  simp only [bne_self_eq_false, cond_f]
  erw [h]
  rfl
end Go.Proofs.YtajnhlkkbhobiaaDoor.Cyc
