/- Accesses: of a master, how many, rows of them, whether they meet, their texts: both. -/
import Derived.Test.YtmebkghfjamffaaDoorHisLib
import Derived.Test.YtmebkghfjamffaaDoorHisLibX
set_option linter.unusedVariables false
set_option linter.unusedSimpArgs false
namespace Go.Proofs.YtmebkghfjamffaaDoor.His
open Go.RowKit Go.Eng
/-! ### of a master -/
theorem del_all {α : Type} [Inhabited α] {K : Nat} (z : α) (L : Nat → List α → Int → Int → Option (List α × Int)) (S : Nat → Int → Option (Lp Int Unit)) (q : α → Bool) (l : List α) (hl : l.length ≤ 1000) (hK : l.length < K)
    (hS : ∀ k t, S (k + 1) t = cond (decide (t < (l.length : Int))) (cond (inR t l.length) (cond (q (rdD l t)) (some (Lp.ret t)) (S k (IntKind.wrap .i64 (t + 1)))) none) (some (Lp.go ())))
    (hL : ∀ k ys w r, L (k + 1) ys w r = cond (decide (r < (ys.length : Int))) (cond (inR r ys.length) (cond (!(q (rdD ys r))) (cond (inR w ys.length) (L k (stD ys w (rdD ys r)) (IntKind.wrap .i64 (w + 1)) (IntKind.wrap .i64 (r + 1))) none) (L k ys w (IntKind.wrap .i64 (r + 1)))) none) (some (ys, w)))
    {ρ : Type} (J : List α → Option ρ) :
    (S K 0).bind (fun x => Lp.elim x (fun t => cond (t == (-1)) (J l) ((L K l t (IntKind.wrap .i64 (t + 1))).bind (fun y => cond (cutR y.2 (y.1.length : Int) y.1.length) (cond (cutR 0 y.2 (clrD y.1 y.2 z).length) (J (cutL (clrD y.1 y.2 z) 0 y.2)) none) none)))
      (fun _ => cond ((-1 : Int) == (-1)) (J l) ((L K l (-1) (IntKind.wrap .i64 ((-1) + 1))).bind (fun y => cond (cutR y.2 (y.1.length : Int) y.1.length) (cond (cutR 0 y.2 (clrD y.1 y.2 z).length) (J (cutL (clrD y.1 y.2 z) 0 y.2)) none) none)))) = J (l.filter (fun x => !(q x))) := by
  have := search0 S l (l.length : Int) rfl q (fun t => t) (by omega) hS hK
  rw [this]
  cases hj : l.findIdx? q with
  | none =>
    have hall : l.filter (fun x => !(q x)) = l := by
      rw [List.filter_eq_self]
      intro x hx
      rw [List.findIdx?_eq_none_iff] at hj
      simpa using hj x hx
    rw [hall]
    rfl
  | some j =>
    have hlt : j < l.length := (List.findIdx?_eq_some_iff_getElem.1 hj).1
    obtain ⟨_, hq, hbef⟩ := List.findIdx?_eq_some_iff_getElem.1 hj
    have htake : (l.take (j + 1)).filter (fun x => !(q x)) = l.take j := by
      rw [List.take_succ_eq_append_getElem hlt, List.filter_append]
      have h1 : (l.take j).filter (fun x => !(q x)) = l.take j := by
        rw [List.filter_eq_self]
        intro x hx
        obtain ⟨i, hi, rfl⟩ := List.getElem_of_mem hx
        simp only [List.length_take] at hi
        have := hbef i (by omega)
        simpa using this
      rw [h1]
      simp [hq]
    obtain ⟨ys, w, h1, h2, h3, h4⟩ := delD L q l (by omega) hL (l.length - (j + 1)) K (j + 1) j l (by omega) (by omega) rfl (by omega) htake.symm rfl
    simp only [Option.bind_some, Lp.elim]
    rw [cond_no (by simp), wrap_nat (by omega), h1]
    simp only [Option.bind_some]
    rw [cond_of (cutR_of (by omega) (by omega) (by omega)), cond_of (cutR_of (by omega) (by omega) (by rw [clrD_length _ _ _ (by omega)]; omega)), cut_clr ys w _ (by omega), h4]
def ofL (l : List Ev) (m : Int) : List Ev := l.filter fun e => e.2.1 == m
theorem ofH (l : List Ev) (m : Int) (hl : l.length ≤ 900) : history_Of_24.f 1000 l m = some (ofL l m) := by
  unfold history_Of_24.f
  have hc : api_Event_54.f 1000 l = some l := by
    unfold api_Event_54.f
    rw [cond_of (mayBe_of (by simp; omega) (by simp; omega)), List.nil_append]
  rw [hc, Option.bind_some]
  have := del_all (K := 1000) ((0, 0, 0, 0, 0, 0) : Ev) (fun k ys w r' => history_Of_24.l1 1000 l m k ys w r') (fun k t => history_Of_24.l0 1000 l m l (l.length : Int) k t) (fun x => x.2.1 != m) l (by omega) (by omega) (fun k t => rfl) (fun k ys w r' => rfl) (fun t => some t)
  refine Eq.trans this ?_
  unfold ofL
  congr 2
  funext x
  simp [bne]
theorem ofL_len (l : List Ev) (m : Int) : (ofL l m).length ≤ l.length := List.length_filter_le _ _
theorem ofL_snoc (l : List Ev) (e : Ev) (m : Int) : ofL (l ++ [e]) m = ofL l m ++ (if (e.2.1 == m) = true then [e] else []) := by
  unfold ofL
  rw [List.filter_append, List.filter_cons, List.filter_nil]
theorem ofQ_l (l : List Ev) (m : Int) (hl : l.length ≤ 900) : ∀ (f i : Nat), i ≤ l.length → l.length - i < f → charabancref29_Of_25.l0 1000 l m f (ofL (l.take i) m) (i : Int) = some (ofL l m)
  | 0, i, h1, h2 => by omega
  | f + 1, i, h1, h2 => by
    rw [charabancref29_Of_25.l0]
    by_cases hi : i < l.length
    · have hlen := ofL_len (l.take i) m
      rw [List.length_take] at hlen
      rw [decide_eq_true (by omega), cond_t, cond_of (inR_nat hi), rdD_nat l hi, wrap_nat (by omega), cond_of (mayBe_of (by simp only [List.length_cons, List.length_nil]; omega) (by simp only [List.length_cons, List.length_nil]; omega))]
      have ih := ofQ_l l m hl f (i + 1) (by omega) (by omega)
      rw [List.take_succ_eq_append_getElem hi, ofL_snoc] at ih
      cases hm : ((l[i]).2.1 == m) with
      | true => rw [hm, if_pos rfl] at ih; exact ih
      | false => rw [hm, if_neg (by decide), List.append_nil] at ih; exact ih
    · rw [decide_eq_false (by omega), cond_f, List.take_of_length_le (by omega)]
theorem ofQ (l : List Ev) (m : Int) (hl : l.length ≤ 900) : charabancref29_Of_25.f 1000 l m = some (ofL l m) := by
  unfold charabancref29_Of_25.f
  have := ofQ_l l m hl 1000 0 (by omega) (by omega)
  erw [this]
  rfl
/-! ### how many -/
def cnt (l : List Ev) (m : Int) : Int := ((ofL l m).length : Int)
def cnts (l : List Ev) : List Int := [cnt l 0, cnt l 1, cnt l 2, cnt l 3]
theorem cnt_snoc (l : List Ev) (e : Ev) (m : Int) : cnt (l ++ [e]) m = cnt l m + if e.2.1 = m then 1 else 0 := by
  unfold cnt ofL
  rw [List.filter_append]
  by_cases h : e.2.1 = m
  · simp [h]
  · simp [h]
theorem known_at (m : Int) : history_known_49.f 1000 m = some (decide (0 ≤ m ∧ m < 4)) := by
  unfold history_known_49.f
  by_cases h : m ≥ 0
  · rw [decide_eq_true h, cond_t]; simp [h]
  · rw [decide_eq_false h, cond_f, decide_eq_false (by omega)]
theorem countH_l (l : List Ev) (hl : l.length ≤ 900) : ∀ (f i : Nat), i ≤ l.length → l.length - i < f → history_Counts_19.l0 1000 l f (cnts (l.take i)) (i : Int) = some (cnts l)
  | 0, i, h1, h2 => by omega
  | f + 1, i, h1, h2 => by
    rw [history_Counts_19.l0]
    by_cases hi : i < l.length
    · have ih := countH_l l hl f (i + 1) (by omega) (by omega)
      rw [decide_eq_true (by omega), cond_t, cond_of (inR_nat hi), rdD_nat l hi, known_at, Option.bind_some, wrap_nat (by omega)]
      have ht := List.take_succ_eq_append_getElem hi
      have hb : ∀ m, 0 ≤ cnt (l.take i) m ∧ cnt (l.take i) m ≤ 900 := fun m => by
        have := ofL_len (l.take i) m
        rw [List.length_take] at this
        unfold cnt
        omega
      by_cases hm : 0 ≤ (l[i]).2.1 ∧ (l[i]).2.1 < 4
      · rw [decide_eq_true hm, cond_t, cond_of (inR_iff.2 ⟨hm.1, by omega⟩), cond_of (inR_iff.2 ⟨hm.1, by show _ < ((4 : Nat) : Int); omega⟩)]
        have hs : stD (cnts (l.take i)) (l[i]).2.1 (IntKind.wrap .i64 ((rdD (cnts (l.take i)) (l[i]).2.1) + 1)) = cnts (l.take (i + 1)) := by
          rw [ht]
          unfold cnts
          simp only [cnt_snoc]
          have b0 := hb 0; have b1 := hb 1; have b2 := hb 2; have b3 := hb 3
          have : (l[i]).2.1 = 0 ∨ (l[i]).2.1 = 1 ∨ (l[i]).2.1 = 2 ∨ (l[i]).2.1 = 3 := by omega
          rcases this with h | h | h | h <;> rw [h] <;> simp only [rdD, stD, show Int.toNat 0 = 0 from rfl, show Int.toNat 1 = 1 from rfl, show Int.toNat 2 = 2 from rfl, show Int.toNat 3 = 3 from rfl, List.getD_cons_zero, List.getD_cons_succ, List.set_cons_zero, List.set_cons_succ] <;> rw [wrap_i64 (by omega) (by omega)] <;> simp
        rw [hs]
        exact ih
      · rw [decide_eq_false hm, cond_f]
        have hs : cnts (l.take i) = cnts (l.take (i + 1)) := by
          rw [ht]
          unfold cnts
          simp only [cnt_snoc]
          rw [if_neg (by omega), if_neg (by omega), if_neg (by omega), if_neg (by omega)]
          simp
        rw [hs]
        exact ih
    · rw [decide_eq_false (by omega), cond_f, List.take_of_length_le (by omega)]
theorem countH (l : List Ev) (hl : l.length ≤ 900) : history_Counts_19.f 1000 l = some (cnts l) := by
  unfold history_Counts_19.f
  have := countH_l l hl 1000 0 (by omega) (by omega)
  erw [this]
  rfl
theorem countQ (l : List Ev) (hl : l.length ≤ 900) : charabancref29_Counts_20.f 1000 l = some (cnts l) := by
  unfold charabancref29_Counts_20.f
  have st : ∀ (k m : Nat) (xs : List Int), m < 4 → xs.length = 4 → charabancref29_Counts_20.l0 1000 l (k + 1) xs (m : Int) = charabancref29_Counts_20.l0 1000 l k (xs.set m (cnt l m)) ((m + 1 : Nat) : Int) := by
    intro k m xs hm hx
    rw [charabancref29_Counts_20.l0, decide_eq_true (by omega), cond_t, ofQ l _ hl, Option.bind_some, cond_of (inR_nat (by omega)), cond_of (inR_nat (by omega)), wrap_nat (by omega)]
    rfl
  have e := st 999 0 (List.replicate 4 0) (by omega) rfl
  have e2 := st 998 1 ((List.replicate 4 0).set 0 (cnt l (0 : Nat))) (by omega) rfl
  have e3 := st 997 2 (((List.replicate 4 0).set 0 (cnt l (0 : Nat))).set 1 (cnt l (1 : Nat))) (by omega) rfl
  have e4 := st 996 3 ((((List.replicate 4 0).set 0 (cnt l (0 : Nat))).set 1 (cnt l (1 : Nat))).set 2 (cnt l (2 : Nat))) (by omega) rfl
  have e5 : charabancref29_Counts_20.l0 1000 l 996 (cnts l) ((4 : Nat) : Int) = some (cnts l) := by rw [charabancref29_Counts_20.l0]; rfl
  erw [e, e2, e3, e4, e5]
  rfl
/-! ### the same accesses -/
theorem events_l (l : List Ev) (hl : l.length ≤ 900) : ∀ (k i : Nat), i ≤ l.length → l.length - i < k → charabancref28_Events_23.l0 1000 l l k (i : Int) = some (Lp.go ())
  | 0, i, h1, h2 => by omega
  | k + 1, i, h1, h2 => by
    rw [charabancref28_Events_23.l0]
    by_cases hi : i < l.length
    · rw [decide_eq_true (by omega), cond_t, inR_nat hi, cond_t, cond_t, wrap_nat (by omega)]
      simp only [beq_self_eq_true, Bool.and_self, Bool.not_true, cond_f]
      exact events_l l hl k (i + 1) (by omega) (by omega)
    · rw [decide_eq_false (by omega), cond_f]
theorem events_at (l : List Ev) (hl : l.length ≤ 900) : charabancref28_Events_23.f 1000 l l = some true := by
  unfold charabancref28_Events_23.f
  have h := events_l l hl 1000 0 (by omega) (by omega)
  simp only [bne_self_eq_false, cond_f]
  erw [h]
  rfl
end Go.Proofs.YtmebkghfjamffaaDoor.His
