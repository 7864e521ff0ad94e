/- Accesses: rows of them by one master, both. -/
import Derived.Test.YtmebkghfjamffaaDoorHisLibE
set_option linter.unusedVariables false
set_option linter.unusedSimpArgs false
set_option maxHeartbeats 1000000
namespace Go.Proofs.YtmebkghfjamffaaDoor.His
open Go.RowKit Go.Eng
abbrev Tn : Type := Int × Int × Int × Int
def tens : List Ev → List Tn
  | [] => []
  | e :: l => match tens l with
    | [] => [(e.2.1, e.1, e.1, 1)]
    | t :: r => if t.1 = e.2.1 then (e.2.1, e.1, t.2.2.1, t.2.2.2 + 1) :: r else (e.2.1, e.1, e.1, 1) :: t :: r
theorem tens_cons (e : Ev) (l : List Ev) : ∃ t r, tens (e :: l) = t :: r ∧ t.1 = e.2.1 ∧ t.2.1 = e.1 := by
  rw [tens]
  split
  · exact ⟨_, _, rfl, rfl, rfl⟩
  · split
    · exact ⟨_, _, rfl, rfl, rfl⟩
    · exact ⟨_, _, rfl, rfl, rfl⟩
theorem tens_nil {l : List Ev} (h : tens l = []) : l = [] := by
  cases l with
  | nil => rfl
  | cons e l => obtain ⟨t, r, h2, _⟩ := tens_cons e l; rw [h2] at h; cases h
theorem tens_head : ∀ (l : List Ev) (t : Tn) (r : List Tn), tens l = t :: r → ∃ n : Nat, t.2.2.2 = (n : Int) ∧ 1 ≤ n ∧ n ≤ l.length ∧ (∀ k, (h : k < l.length) → k < n → (l[k]).2.1 = t.1) ∧ (∀ h : 0 < l.length, t.2.1 = (l[0]).1) ∧ (∀ h : n - 1 < l.length, t.2.2.1 = (l[n - 1]).1) ∧ r = tens (l.drop n) ∧ (∀ h : n < l.length, (l[n]).2.1 ≠ t.1)
  | [], t, r, h => by simp [tens] at h
  | e :: l, t, r, h => by
    rw [tens] at h
    cases hl : tens l with
    | nil =>
      rw [hl] at h
      obtain rfl := tens_nil hl
      simp only [List.cons.injEq] at h
      obtain ⟨rfl, rfl⟩ := h
      refine ⟨1, rfl, by omega, by simp, ?_, ?_, ?_, rfl, ?_⟩
      · intro k hk hk1
        obtain rfl : k = 0 := by omega
        rfl
      · intro _; rfl
      · intro _; rfl
      · intro h; simp at h
    | cons t' r' =>
      rw [hl] at h
      obtain ⟨n, h1, h2, h3, h4, h5, h6, h7, h8⟩ := tens_head l t' r' hl
      simp only at h
      by_cases hm : t'.1 = e.2.1
      · rw [if_pos hm] at h
        obtain ⟨rfl, rfl⟩ := List.cons.inj h
        refine ⟨n + 1, by show t'.2.2.2 + 1 = _; rw [h1]; omega, by omega, by simp; omega, ?_, ?_, ?_, ?_, ?_⟩
        · intro k hk hk1
          cases k with
          | zero => rfl
          | succ k => exact (h4 k (by simpa using hk) (by omega)).trans hm
        · intro _; rfl
        · intro hh
          have hn : n + 1 - 1 = (n - 1) + 1 := by omega
          have := h6 (by omega)
          show t'.2.2.1 = _
          rw [this]
          simp only [hn, List.getElem_cons_succ]
        · rw [h7]; rfl
        · intro hh
          have := h8 (by simpa using hh)
          show (l[n]'(by simpa using hh)).2.1 ≠ e.2.1
          rw [← hm]
          exact this
      · rw [if_neg hm] at h
        obtain ⟨rfl, rfl⟩ := List.cons.inj h
        refine ⟨1, rfl, by omega, by simp, ?_, ?_, ?_, ?_, ?_⟩
        · intro k hk hk1
          obtain rfl : k = 0 := by omega
          rfl
        · intro _; rfl
        · intro _; rfl
        · show t' :: r' = tens l
          rw [hl]
        · intro hh
          show (l[0]'(by simpa using hh)).2.1 ≠ e.2.1
          rw [h4 0 (by simpa using hh) (by omega)]
          exact hm
theorem find_run {l : List Ev} {n : Nat} {m : Int} (h1 : n ≤ l.length) (h2 : ∀ k, (h : k < l.length) → k < n → (l[k]).2.1 = m) (h3 : ∀ h : n < l.length, (l[n]).2.1 ≠ m) :
    l.findIdx? (fun e => e.2.1 != m) = if n < l.length then some n else none := by
  by_cases hn : n < l.length
  · rw [if_pos hn, List.findIdx?_eq_some_iff_getElem]
    refine ⟨hn, by simpa using h3 hn, fun j hj => ?_⟩
    have := h2 j (by omega) hj
    simp [this]
  · rw [if_neg hn, List.findIdx?_eq_none_iff]
    intro x hx
    obtain ⟨k, hk, rfl⟩ := List.getElem_of_mem hx
    simp [h2 k hk (by omega)]
theorem tensH_l (p0 : List Ev) : ∀ (m f : Nat) (out : List Tn) (l : List Ev), l.length ≤ m → l.length ≤ 900 → out.length + l.length ≤ 2000 → m < f →
    history_Tenures_17.l1 1000 p0 f out l = some (out ++ tens l, [])
  | m, 0, out, l, h1, h2, h3, h4 => by omega
  | m, f + 1, out, [], h1, h2, h3, h4 => by
    rw [history_Tenures_17.l1]
    simp [tens]
  | 0, f + 1, out, e :: l, h1, h2, h3, h4 => by simp at h1
  | m + 1, f + 1, out, e :: l, h1, h2, h3, h4 => by
    obtain ⟨t, r, ht, ht1, ht2⟩ := tens_cons e l
    obtain ⟨n, g1, g2, g3, g4, g5, g6, g7, g8⟩ := tens_head (e :: l) t r ht
    generalize hL : e :: l = L at *
    have hpos : 0 < L.length := by rw [← hL]; simp
    have h0 : L[0].2.1 = t.1 := g4 0 hpos (by omega)
    rw [history_Tenures_17.l1, decide_eq_true (by omega), cond_t]
    have hs := search0 (fun k t => history_Tenures_17.l0 1000 p0 L (L.length : Int) out k t) L (L.length : Int) rfl (fun x => x.2.1 != t.1) (fun t => t) (by omega) (fun k i => by
      show history_Tenures_17.l0 1000 p0 L (L.length : Int) out (k + 1) i = _
      rw [history_Tenures_17.l0, cond_of (show inR 0 L.length = true from inR_iff.2 ⟨by omega, by omega⟩), show (rdD L 0) = L[0] from rdD_nat L hpos, h0]) (K := 1000) (by omega)
    rw [find_run g3 g4 g8] at hs
    simp only [Let]
    have body : ∀ (X : Int), X = (n : Int) → (cond (cutR 0 X L.length) (cond (inR 0 (cutL L 0 X).length) (cond (inR (IntKind.wrap .i64 (((cutL L 0 X).length : Int) - 1)) (cutL L 0 X).length) (cond (mayBe (out.length + ([((rdD (cutL L 0 X) 0).2.1, (rdD (cutL L 0 X) 0).1, (rdD (cutL L 0 X) (IntKind.wrap .i64 (((cutL L 0 X).length : Int) - 1))).1, ((cutL L 0 X).length : Int))] : List (Int × Int × Int × Int)).length) 32) (cond (cutR X (L.length : Int) L.length) (history_Tenures_17.l1 1000 p0 f (out ++ ([((rdD (cutL L 0 X) 0).2.1, (rdD (cutL L 0 X) 0).1, (rdD (cutL L 0 X) (IntKind.wrap .i64 (((cutL L 0 X).length : Int) - 1))).1, ((cutL L 0 X).length : Int))] : List (Int × Int × Int × Int))) (cutL L X (L.length : Int))) none) none) none) none) none) = some (out ++ tens L, []) := by
      intro X hX
      subst hX
      have hlen : (L.take n).length = n := by rw [List.length_take]; omega
      rw [cond_of (cutR_of (by omega) (by omega) (by omega)), cutL_nat, hlen, cond_of (inR_iff.2 ⟨by omega, by omega⟩), wrap_i64 (by omega) (by omega), show (n : Int) - 1 = ((n - 1 : Nat) : Int) by omega, cond_of (inR_nat (by omega)), cond_of (mayBe_of (by simp only [List.length_cons, List.length_nil]; omega) (by simp only [List.length_cons, List.length_nil]; omega)), cond_of (cutR_of (by omega) (by omega) (by omega))]
      have e0 : rdD (L.take n) 0 = L[0] := by
        have := rdD_nat (L.take n) (i := 0) (by omega)
        rw [List.getElem_take] at this
        exact this
      have e1 : rdD (L.take n) ((n - 1 : Nat) : Int) = L[n - 1] := by
        have := rdD_nat (L.take n) (i := n - 1) (by omega)
        rw [List.getElem_take] at this
        exact this
      have e2 : cutL L (n : Int) (L.length : Int) = L.drop n := by simp [cutL]
      have e3 : ((rdD (L.take n) 0).2.1, (rdD (L.take n) 0).1, (rdD (L.take n) ((n - 1 : Nat) : Int)).1, (n : Int)) = t := by
        rw [e0, e1, h0, ← g5 hpos, ← g6 (by omega), ← g1]
      rw [e3, e2, tensH_l p0 m f (out ++ [t]) (L.drop n) (by simp; omega) (by simp; omega) (by simp; omega) (by omega), ht, g7]
      simp
    have hs2 : history_Tenures_17.l0 1000 p0 L (L.length : Int) out 1000 0 = _ := hs
    rw [hs2]
    by_cases hn : n < L.length
    · rw [if_pos hn]
      simp only [Option.bind_some, Lp.elim]
      rw [decide_eq_false (show ¬ ((n : Nat) : Int) < 0 by omega), cond_f]
      exact body _ rfl
    · rw [if_neg hn]
      simp only [Option.bind_some, Lp.elim]
      rw [decide_eq_true (show (-1 : Int) < 0 by omega), cond_t]
      exact body _ (by omega)
theorem tensH (l : List Ev) (hl : l.length ≤ 900) : history_Tenures_17.f 1000 l = some (tens l) := by
  unfold history_Tenures_17.f
  rw [tensH_l l 900 1000 [] l hl hl (by simp; omega) (by omega)]
  rfl
/-! ### the reference's -/
def mrg (x : Tn) : List Tn → List Tn
  | [] => [x]
  | t :: r => if x.1 = t.1 then (x.1, x.2.1, t.2.2.1, x.2.2.2 + t.2.2.2) :: r else x :: t :: r
theorem mrg_cons (x : Tn) (e : Ev) (l : List Ev) : mrg x (tens (e :: l)) = if x.1 = e.2.1 then mrg (x.1, x.2.1, e.1, x.2.2.2 + 1) (tens l) else x :: mrg (e.2.1, e.1, e.1, 1) (tens l) := by
  rw [tens]
  cases hl : tens l with
  | nil => simp only [mrg]
  | cons t r =>
    simp only [mrg]
    by_cases ht : t.1 = e.2.1
    · rw [if_pos ht]
      simp only [mrg]
      by_cases hx : x.1 = e.2.1
      · rw [if_pos hx, if_pos hx, if_pos (hx.trans ht.symm)]
        congr 4
        omega
      · rw [if_neg hx, if_neg hx, if_pos ht.symm]
        congr 5
        omega
    · rw [if_neg ht]
      simp only [mrg]
      by_cases hx : x.1 = e.2.1
      · rw [if_pos hx, if_pos hx, if_neg (fun h => ht (h.symm.trans hx))]
        done
      · rw [if_neg hx, if_neg hx, if_neg (fun h => ht h.symm)]
def TQ (p0 : List Ev) (k : Nat) (o : List Tn) (i : Int) : Option (List Tn) := charabancref29_Tenures_18.l0 1000 p0 k o i
def nx (o : List Tn) (KK : Int) (e : Ev) : List Tn := stD (stD o KK ((rdD o KK).1, (rdD o KK).2.1, e.1, (rdD o KK).2.2.2)) KK ((rdD (stD o KK ((rdD o KK).1, (rdD o KK).2.1, e.1, (rdD o KK).2.2.2)) KK).1, (rdD (stD o KK ((rdD o KK).1, (rdD o KK).2.1, e.1, (rdD o KK).2.2.2)) KK).2.1, (rdD (stD o KK ((rdD o KK).1, (rdD o KK).2.1, e.1, (rdD o KK).2.2.2)) KK).2.2.1, (IntKind.wrap .i64 (((rdD (stD o KK ((rdD o KK).1, (rdD o KK).2.1, e.1, (rdD o KK).2.2.2)) KK).2.2.2) + 1)))
theorem TQ_step (p0 : List Ev) (k : Nat) (o : List Tn) (i : Int) : TQ p0 (k + 1) o i = cond (decide (i < (p0.length : Int))) (Let (fun (t25 : Bool) => cond t25 (cond (inR i p0.length) (cond (inR (IntKind.wrap .i64 ((o.length : Int) - 1)) o.length) (cond (inR (IntKind.wrap .i64 ((o.length : Int) - 1)) (stD o (IntKind.wrap .i64 ((o.length : Int) - 1)) ((rdD o (IntKind.wrap .i64 ((o.length : Int) - 1))).1, (rdD o (IntKind.wrap .i64 ((o.length : Int) - 1))).2.1, (rdD p0 i).1, (rdD o (IntKind.wrap .i64 ((o.length : Int) - 1))).2.2.2)).length) (TQ p0 k (nx o (IntKind.wrap .i64 ((o.length : Int) - 1)) (rdD p0 i)) (IntKind.wrap .i64 (i + 1))) none) none) none)
    (cond (inR i p0.length) (cond (mayBe (o.length + 1) 32) (TQ p0 k (o ++ [((rdD p0 i).2.1, (rdD p0 i).1, (rdD p0 i).1, 1)]) (IntKind.wrap .i64 (i + 1))) none) none)) (fun j28 => cond (decide ((IntKind.wrap .i64 ((o.length : Int) - 1)) ≥ 0)) (cond (inR (IntKind.wrap .i64 ((o.length : Int) - 1)) o.length) (cond (inR i p0.length) (j28 (((rdD o (IntKind.wrap .i64 ((o.length : Int) - 1))).1) == ((rdD p0 i).2.1))) none) none) (j28 false))) (some o) := rfl
theorem nx_at (o : List Tn) (x : Tn) (e : Ev) (hx : 0 ≤ x.2.2.2 ∧ x.2.2.2 ≤ 1000) : nx (o ++ [x]) ((o.length : Nat) : Int) e = o ++ [(x.1, x.2.1, e.1, x.2.2.2 + 1)] := by
  have r1 : ∀ y : Tn, rdD (o ++ [y]) ((o.length : Nat) : Int) = y := fun y => by
    rw [rdD_nat _ (by simp)]; simp
  have s1 : ∀ y z : Tn, stD (o ++ [y]) ((o.length : Nat) : Int) z = o ++ [z] := fun y z => by simp [stD]
  unfold nx
  simp only [r1, s1]
  rw [wrap_i64 (by omega) (by omega)]
theorem tensQ_l (p0 : List Ev) (hl : p0.length ≤ 900) : ∀ (f i : Nat) (o : List Tn) (x : Tn), i ≤ p0.length → p0.length - i < f → o.length ≤ i → 0 ≤ x.2.2.2 ∧ x.2.2.2 ≤ i →
    TQ p0 f (o ++ [x]) (i : Int) = some (o ++ mrg x (tens (p0.drop i)))
  | 0, i, o, x, h1, h2, h3, h4 => by omega
  | f + 1, i, o, x, h1, h2, h3, h4 => by
    rw [TQ_step]
    by_cases hi : i < p0.length
    · have hk : IntKind.wrap .i64 (((o ++ [x]).length : Int) - 1) = ((o.length : Nat) : Int) := by rw [wrap_i64 (by simp; try omega) (by simp; try omega)]; simp
      have hin : inR ((o.length : Nat) : Int) (o ++ [x]).length = true := inR_nat (by simp)
      have r1 : rdD (o ++ [x]) ((o.length : Nat) : Int) = x := by rw [rdD_nat _ (by simp)]; simp
      rw [hk, decide_eq_true (show (i : Int) < (p0.length : Int) by omega), cond_t, stD_length, hin, r1, inR_nat hi, rdD_nat p0 hi, wrap_nat (by omega), nx_at o x p0[i] ⟨h4.1, by omega⟩, decide_eq_true (show ((o.length : Nat) : Int) ≥ 0 by omega)]
      simp only [Let, cond_t]
      rw [drop_at hi, mrg_cons]
      by_cases hm : x.1 = (p0[i]).2.1
      · rw [show (x.1 == (p0[i]).2.1) = true by simpa using hm, cond_t, if_pos hm]
        exact tensQ_l p0 hl f (i + 1) o _ (by omega) (by omega) (by omega) ⟨by show 0 ≤ x.2.2.2 + 1; omega, by show x.2.2.2 + 1 ≤ _; omega⟩
      · rw [show (x.1 == (p0[i]).2.1) = false by simpa using hm, cond_f, if_neg hm, cond_of (mayBe_of (by simp; omega) (by simp; omega))]
        have := tensQ_l p0 hl f (i + 1) (o ++ [x]) ((p0[i]).2.1, (p0[i]).1, (p0[i]).1, 1) (by omega) (by omega) (by simp; omega) ⟨by show (0 : Int) ≤ 1; omega, by show (1 : Int) ≤ _; omega⟩
        rw [this]
        simp
    · rw [decide_eq_false (show ¬ (i : Int) < (p0.length : Int) by omega), cond_f, List.drop_of_length_le (by omega)]
      rfl
theorem tensQ (l : List Ev) (hl : l.length ≤ 900) : charabancref29_Tenures_18.f 1000 l = some (tens l) := by
  unfold charabancref29_Tenures_18.f
  have : TQ l 1000 [] 0 = some (tens l) := by
    rw [show (1000 : Nat) = 999 + 1 from rfl, TQ_step]
    cases l with
    | nil => rfl
    | cons e l =>
      have hr : rdD (e :: l) 0 = e := rfl
      have hk : IntKind.wrap .i64 ((([] : List Tn).length : Int) - 1) = -1 := rfl
      rw [hk, decide_eq_true (by simp; try omega), cond_t, hr, show decide ((-1 : Int) ≥ 0) = false from rfl, cond_of (show inR 0 (e :: l).length = true from inR_iff.2 ⟨by omega, by simp; try omega⟩), cond_of (show inR 0 (e :: l).length = true from inR_iff.2 ⟨by omega, by simp; try omega⟩)]
      simp only [Let, cond_f]
      rw [cond_of (by rfl), show IntKind.wrap .i64 ((0 : Int) + 1) = ((1 : Nat) : Int) from rfl]
      have := tensQ_l (e :: l) hl 999 1 [] (e.2.1, e.1, e.1, 1) (by simp) (by simp at hl ⊢; omega) (by simp) ⟨by show (0 : Int) ≤ 1; omega, by show (1 : Int) ≤ 1; omega⟩
      rw [this, List.nil_append, List.drop_one, List.tail_cons, tens]
      cases tens l with
      | nil => rfl
      | cons t r =>
        simp only [mrg]
        by_cases ht : t.1 = e.2.1
        · rw [if_pos ht, if_pos ht.symm, Int.add_comm]
        · rw [if_neg ht, if_neg (fun h => ht h.symm)]
  unfold TQ at this
  rw [this]
  rfl
end Go.Proofs.YtmebkghfjamffaaDoor.His
