/- Cycles: the loops over states, both; how many states. -/
import Derived.Test.YtajnhlkkbhobiaaDoorCycLibB
set_option linter.unusedVariables false
set_option linter.unusedSimpArgs false
namespace Go.Proofs.YtajnhlkkbhobiaaDoor.Cyc
open Go.RowKit Go.Eng
abbrev TW : ByteArray := ⟨#[84, 87]⟩
def go (k t : Int) : Nat → List Bool → Int → Nat → Int → List ByteArray → Option (List ByteArray × Nat × Int)
  | 0, _, _, _, _, _ => none
  | f + 1, ws, n, i, at_, l =>
    if ws.headD false = true ∧ n = sm k - 1 then go k t f ws.tail n (i + 1) at_ (l ++ [TW])
    else if n + 1 = t then some (l ++ [nm k (n + 1)], i + 1, if (decide (0 < sm k) && (n + 1 == sm k + 1)) = true then ((i + 1 : Nat) : Int) else at_)
    else go k t f ws.tail (n + 1) (i + 1) (if (decide (0 < sm k) && (n + 1 == sm k + 1)) = true then ((i + 1 : Nat) : Int) else at_) (l ++ [nm k (n + 1)])
theorem tick_wait {k a b t n w : Int} {wait : Bool} (ho : okC k t) (hn : 0 ≤ n ∧ n < t) (h : wait = true ∧ n = sm k - 1) : tick k a b t n w wait = (k, a, b, t, n, IntKind.wrap .i64 (w + 1), false, false) := by
  unfold tick
  rw [if_neg (by rintro (h | h | h); exact h ho; all_goals omega), if_pos h]
theorem tick_go {k a b t n w : Int} {wait : Bool} (ho : okC k t) (hn : 0 ≤ n ∧ n < t) (h : ¬ (wait = true ∧ n = sm k - 1)) : tick k a b t n w wait = (k, a, b, t, n + 1, w, decide (0 < sm k) && (n + 1 == sm k + 1), n + 1 == t) := by
  unfold tick
  rw [if_neg (by rintro (h | h | h); exact h ho; all_goals omega), if_neg h]
theorem cut_tail (x : Bool) (xs : List Bool) : cutL (x :: xs) (if ((x :: xs).length : Int) < 1 then ((x :: xs).length : Int) else 1) ((x :: xs).length : Int) = xs := by
  rw [if_neg (by simp only [List.length_cons]; omega)]
  simp [cutL]
theorem cutR_tail (ws : List Bool) : cutR (if (ws.length : Int) < 1 then (ws.length : Int) else 1) (ws.length : Int) ws.length = true := by
  split <;> exact cutR_of (by omega) (by omega) (by omega)
theorem rd_head (x : Bool) (xs : List Bool) : rdD (x :: xs) 0 = x := rfl
theorem take_l (k a b t : Int) (p1 : List Bool) (ho : okC k t) : ∀ (f : Nat) (ws : List Bool) (n w : Int) (i : Nat) (at_ : Int) (l l' : List ByteArray) (m : Nat) (at' : Int), 0 ≤ n → n < t → i + f ≤ 100000 →
    go k t f ws n i at_ l = some (l', m, at') → ∃ ws', cycle_Take_18.l0 1000 k a b t p1 f (i : Int) at_ ws k a b t n w ((i : Int) + 1) = some ((m : Int), at', ws')
  | 0, ws, n, w, i, at_, l, l', m, at', h1, h2, h3, h => by simp [go] at h
  | f + 1, ws, n, w, i, at_, l, l', m, at', h1, h2, h3, h => by
    rw [go] at h
    have hk : 1 ≤ k ∧ k ≤ 7 := ⟨ho.1, ho.2.1⟩
    have ht : t ≤ 32 := ho.2.2.2
    have hi : IntKind.wrap .i64 ((i : Int) + 1 + 1) = ((i + 1 : Nat) : Int) + 1 := by rw [wrap_i64 (by omega) (by omega)]; omega
    have main : ∀ wait : Bool, wait = ws.headD false → ∃ ws', (some (tick k a b t n w wait)).bind (fun yt90 => Let (fun (t123 : ByteArray) => Let (fun (t153 : Int) => cond yt90.2.2.2.2.2.2.2 (some (((i : Int) + 1), t153, ws.tail)) (cycle_Take_18.l0 1000 k a b t p1 f ((i : Int) + 1) t153 ws.tail yt90.1 yt90.2.1 yt90.2.2.1 yt90.2.2.2.1 yt90.2.2.2.2.1 yt90.2.2.2.2.2.1 (IntKind.wrap .i64 (((i : Int) + 1) + 1)))) (fun j156 => cond yt90.2.2.2.2.2.2.1 (j156 ((i : Int) + 1)) (j156 at_))) (fun j126 => cond (decide (yt90.2.2.2.2.1 > n)) ((cycle_name_59.f 1000 k yt90.2.2.2.2.1).bind fun t119 => j126 t119) (j126 (⟨#[84, 87]⟩ : ByteArray)))) = some ((m : Int), at', ws') := by
      intro wait hw
      subst hw
      simp only [Option.bind_some, Let]
      by_cases hc : ws.headD false = true ∧ n = sm k - 1
      · rw [if_pos hc] at h
        rw [tick_wait ho ⟨h1, h2⟩ hc]
        simp only [decide_eq_false (show ¬ n > n by omega), cond_f, hi]
        have := take_l k a b t p1 ho f ws.tail n (IntKind.wrap .i64 (w + 1)) (i + 1) at_ _ l' m at' h1 h2 (by omega) h
        rwa [show ((i + 1 : Nat) : Int) = (i : Int) + 1 by omega] at this ⊢
      · rw [if_neg hc] at h
        rw [tick_go ho ⟨h1, h2⟩ hc]
        simp only [decide_eq_true (show n + 1 > n by omega), cond_t, (name_at hk (show 1 ≤ n + 1 ∧ n + 1 ≤ 32 by omega)).1, Option.bind_some, hi]
        by_cases hl : n + 1 = t
        · rw [if_pos hl] at h
          obtain ⟨rfl, h5⟩ := Prod.mk.inj (Option.some.inj h)
          obtain ⟨rfl, rfl⟩ := Prod.mk.inj h5
          rw [show (n + 1 == t) = true by simpa using hl]
          rw [show ((i + 1 : Nat) : Int) = (i : Int) + 1 by omega]
          cases (decide (0 < sm k) && (n + 1 == sm k + 1)) <;> exact ⟨_, rfl⟩
        · rw [if_neg hl] at h
          rw [show (n + 1 == t) = false by simpa using hl]
          obtain ⟨ws', hr⟩ := take_l k a b t p1 ho f ws.tail (n + 1) w (i + 1) _ _ l' m at' (by omega) (by omega) (by omega) h
          rw [show ((i + 1 : Nat) : Int) = (i : Int) + 1 by omega] at hr ⊢
          refine ⟨ws', ?_⟩
          cases hq : (decide (0 < sm k) && (n + 1 == sm k + 1)) <;> simp only [hq] at hr <;> exact hr
    rw [cycle_Take_18.l0]
    cases ws with
    | nil =>
      have h0 : decide ((([] : List Bool).length : Int) > 0) = false := rfl
      rw [h0, cond_f, cond_of (cutR_tail []), (tick_at k a b t n w false).1]
      exact main false rfl
    | cons x xs =>
      have h0 : decide (((x :: xs).length : Int) > 0) = true := by simp
      rw [h0, cond_t, cond_of (by simp [inR]), cond_of (cutR_tail (x :: xs)), cut_tail, rd_head, (tick_at k a b t n w x).1]
      exact main x rfl
theorem names_l (k a b t : Int) (p1 : List Bool) (ho : okC k t) : ∀ (f : Nat) (ws : List Bool) (n w : Int) (i : Nat) (at_ : Int) (l l' : List ByteArray) (m : Nat) (at' : Int), 0 ≤ n → n < t → i + f ≤ 100000 → l.length + f ≤ 100000 →
    go k t f ws n i at_ l = some (l', m, at') → ∃ ws', cycle_Names_21.l0 1000 k a b t p1 f l ws k a b t n w ((i : Int) + 1) = some (l', ws')
  | 0, ws, n, w, i, at_, l, l', m, at', h1, h2, h3, h4, h => by simp [go] at h
  | f + 1, ws, n, w, i, at_, l, l', m, at', h1, h2, h3, h4, h => by
    rw [go] at h
    have hk : 1 ≤ k ∧ k ≤ 7 := ⟨ho.1, ho.2.1⟩
    have ht : t ≤ 32 := ho.2.2.2
    have hi : IntKind.wrap .i64 ((i : Int) + 1 + 1) = ((i + 1 : Nat) : Int) + 1 := by rw [wrap_i64 (by omega) (by omega)]; omega
    have hm : ∀ x : ByteArray, mayBe (l.length + [x].length) 16 = true := fun x => mayBe_of (by simp; omega) (by simp; omega)
    have main : ∀ wait : Bool, wait = ws.headD false → ∃ ws', (some (tick k a b t n w wait)).bind (fun yt80 => Let (fun (t113 : ByteArray) => cond (mayBe (l.length + ([t113] : List ByteArray).length) 16) (cond yt80.2.2.2.2.2.2.2 (some ((l ++ ([t113] : List ByteArray)), ws.tail)) (cycle_Names_21.l0 1000 k a b t p1 f (l ++ ([t113] : List ByteArray)) ws.tail yt80.1 yt80.2.1 yt80.2.2.1 yt80.2.2.2.1 yt80.2.2.2.2.1 yt80.2.2.2.2.2.1 (IntKind.wrap .i64 (((i : Int) + 1) + 1)))) none) (fun j116 => cond (decide (yt80.2.2.2.2.1 > n)) ((cycle_name_59.f 1000 k yt80.2.2.2.2.1).bind fun t109 => j116 t109) (j116 (⟨#[84, 87]⟩ : ByteArray)))) = some (l', ws') := by
      intro wait hw
      subst hw
      simp only [Option.bind_some, Let, hm, cond_t]
      by_cases hc : ws.headD false = true ∧ n = sm k - 1
      · rw [if_pos hc] at h
        rw [tick_wait ho ⟨h1, h2⟩ hc]
        simp only [decide_eq_false (show ¬ n > n by omega), cond_f, hi]
        exact names_l k a b t p1 ho f ws.tail n (IntKind.wrap .i64 (w + 1)) (i + 1) at_ _ l' m at' h1 h2 (by omega) (by simp; omega) h
      · rw [if_neg hc] at h
        rw [tick_go ho ⟨h1, h2⟩ hc]
        simp only [decide_eq_true (show n + 1 > n by omega), cond_t, (name_at hk (show 1 ≤ n + 1 ∧ n + 1 ≤ 32 by omega)).1, Option.bind_some, hi]
        by_cases hl : n + 1 = t
        · rw [if_pos hl] at h
          obtain ⟨rfl, h5⟩ := Prod.mk.inj (Option.some.inj h)
          rw [show (n + 1 == t) = true by simpa using hl]
          exact ⟨_, rfl⟩
        · rw [if_neg hl] at h
          rw [show (n + 1 == t) = false by simpa using hl]
          exact names_l k a b t p1 ho f ws.tail (n + 1) w (i + 1) _ _ l' m at' (by omega) (by omega) (by omega) (by simp; omega) h
    rw [cycle_Names_21.l0]
    cases ws with
    | nil =>
      have h0 : decide ((([] : List Bool).length : Int) > 0) = false := rfl
      rw [h0, cond_f, cond_of (cutR_tail []), (tick_at k a b t n w false).1]
      exact main false rfl
    | cons x xs =>
      have h0 : decide (((x :: xs).length : Int) > 0) = true := by simp
      rw [h0, cond_t, cond_of (by simp [inR]), cond_of (cutR_tail (x :: xs)), cut_tail, rd_head, (tick_at k a b t n w x).1]
      exact main x rfl
theorem walk_l (k a b t : Int) (p1 : List Bool) (ho : okC k t) (hp : p1.length ≤ 1000) : ∀ (f : Nat) (ws : List Bool) (n w : Int) (i : Nat) (at_ : Int) (l l' : List ByteArray) (m : Nat) (at' : Int), p1.drop i = ws → 0 ≤ n → n < t → i + f ≤ 100000 → l.length + f ≤ 100000 →
    go k t f ws n i at_ l = some (l', m, at') → charabancref17_walk_43.l0 1000 k a b t p1 f l at_ k a b t n w (i : Int) = some (l', at')
  | 0, ws, n, w, i, at_, l, l', m, at', h0, h1, h2, h3, h4, h => by simp [go] at h
  | f + 1, ws, n, w, i, at_, l, l', m, at', h0, h1, h2, h3, h4, h => by
    rw [go] at h
    have hk : 1 ≤ k ∧ k ≤ 7 := ⟨ho.1, ho.2.1⟩
    have ht : t ≤ 32 := ho.2.2.2
    have hi : IntKind.wrap .i64 ((i : Int) + 1) = ((i + 1 : Nat) : Int) := wrap_nat (by omega)
    have hm : ∀ x : ByteArray, mayBe (l.length + [x].length) 16 = true := fun x => mayBe_of (by simp; omega) (by simp; omega)
    have hd : p1.drop (i + 1) = ws.tail := by rw [← h0, List.tail_drop]
    have main : ∀ wait : Bool, wait = ws.headD false → (some (tick k a b t n w wait)).bind (fun yt45 => Let (fun (t91 : (List ByteArray)) => Let (fun (t98 : Int) => cond yt45.2.2.2.2.2.2.2 (some (t91, t98)) (charabancref17_walk_43.l0 1000 k a b t p1 f t91 t98 yt45.1 yt45.2.1 yt45.2.2.1 yt45.2.2.2.1 yt45.2.2.2.2.1 yt45.2.2.2.2.2.1 (IntKind.wrap .i64 ((i : Int) + 1)))) (fun j101 => cond yt45.2.2.2.2.2.2.1 (j101 (IntKind.wrap .i64 ((i : Int) + 1))) (j101 at_))) (fun j94 => cond (yt45.2.2.2.2.1 == n) (cond (mayBe (l.length + ([(⟨#[84, 87]⟩ : ByteArray)] : List ByteArray).length) 16) (j94 (l ++ ([(⟨#[84, 87]⟩ : ByteArray)] : List ByteArray))) none) ((charabancref17_name_60.f 1000 k yt45.2.2.2.2.1).bind fun t77 => cond (mayBe (l.length + ([t77] : List ByteArray).length) 16) (j94 (l ++ ([t77] : List ByteArray))) none))) = some (l', at') := by
      intro wait hw
      subst hw
      simp only [Option.bind_some, Let, hm, cond_t, hi]
      by_cases hc : ws.headD false = true ∧ n = sm k - 1
      · rw [if_pos hc] at h
        rw [tick_wait ho ⟨h1, h2⟩ hc]
        simp only [beq_self_eq_true, cond_t, cond_f]
        exact walk_l k a b t p1 ho hp f ws.tail n (IntKind.wrap .i64 (w + 1)) (i + 1) at_ _ l' m at' hd h1 h2 (by omega) (by simp; omega) h
      · rw [if_neg hc] at h
        rw [tick_go ho ⟨h1, h2⟩ hc]
        simp only [show (n + 1 == n) = false by simp; omega, cond_f, (name_at hk (show 1 ≤ n + 1 ∧ n + 1 ≤ 32 by omega)).2, Option.bind_some]
        by_cases hl : n + 1 = t
        · rw [if_pos hl] at h
          obtain ⟨rfl, h5⟩ := Prod.mk.inj (Option.some.inj h)
          obtain ⟨rfl, rfl⟩ := Prod.mk.inj h5
          rw [show (n + 1 == t) = true by simpa using hl]
          cases (decide (0 < sm k) && (n + 1 == sm k + 1)) <;> rfl
        · rw [if_neg hl] at h
          rw [show (n + 1 == t) = false by simpa using hl]
          have hr := walk_l k a b t p1 ho hp f ws.tail (n + 1) w (i + 1) _ _ l' m at' hd (by omega) (by omega) (by omega) (by simp; omega) h
          cases hq : (decide (0 < sm k) && (n + 1 == sm k + 1)) <;> simp only [hq] at hr <;> exact hr
    rw [charabancref17_walk_43.l0]
    by_cases hlt : i < p1.length
    · rw [decide_eq_true (show (i : Int) < (p1.length : Int) by omega), cond_t, cond_of (inR_nat hlt), rdD_nat p1 hlt, (tick_at k a b t n w p1[i]).2]
      refine main p1[i] ?_
      rw [← h0, drop_at hlt]; rfl
    · rw [decide_eq_false (show ¬ (i : Int) < (p1.length : Int) by omega), cond_f, (tick_at k a b t n w false).2]
      refine main false ?_
      rw [← h0, List.drop_of_length_le (by omega)]; rfl
end Go.Proofs.YtajnhlkkbhobiaaDoor.Cyc
