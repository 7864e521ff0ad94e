/- Memories in banks: whether a memory may be. -/
import Derived.Test.YtbcepghanbkncaaDoorImBkLibB
set_option linter.unusedVariables false
set_option linter.unusedSimpArgs false
namespace Go.Proofs.YtbcepghanbkncaaDoor.Im
open Go.RowKit Go.Eng
def badS (n : Int) (x : Sp) : Bool := x.2 == 0 || decide (x.1 < 0) || decide (x.1 ≥ 65536 + 16384 * n)
def lowS (l : List Sp) (i : Nat) : Bool := decide ((rdD l (i : Int)).1 ≤ (rdD l ((i - 1 : Nat) : Int)).1)
/-- What a memory's head must be. -/
def hdS (r : List Int) (n bk : Int) : Bool := decide (r.length ≤ 32768) && decide (1 ≤ n) && decide (n ≤ 8) && decide (0 ≤ bk) && decide (bk < n)
def ckS (r : List Int) (n bk : Int) (l : List Sp) : Bool := hdS r n bk && !(l.any (badS n)) && !((List.range' 1 (l.length - 1)).any (lowS l))
theorem hd_cond {ρ : Type} {r : List Int} {n bk : Int} (J : Bool → ρ) :
    (cond (decide ((r.length : Int) > 32768)) (J true) (cond (decide (n < 1)) (J true) (cond (decide (n > 8)) (J true) (cond (decide (bk < 0)) (J true) (J (decide (bk ≥ n))))))) = J (!(hdS r n bk)) := by
  unfold hdS
  by_cases h1 : (r.length : Int) > 32768
  · simp [h1, show ¬ r.length ≤ 32768 by omega]
  by_cases h2 : n < 1
  · simp [h1, h2, show ¬ 1 ≤ n by omega]
  by_cases h3 : n > 8
  · simp [h1, h2, h3, show ¬ n ≤ 8 by omega]
  by_cases h4 : bk < 0
  · simp [h1, h2, h3, h4, show ¬ 0 ≤ bk by omega]
  rw [cond_no (decide_eq_false h1), cond_no (decide_eq_false h2), cond_no (decide_eq_false h3), cond_no (decide_eq_false h4)]
  congr 1
  simp only [show decide (r.length ≤ 32768) = true by simp; omega, show decide (1 ≤ n) = true by simp; omega, show decide (n ≤ 8) = true by simp; omega, show decide (0 ≤ bk) = true by simp; omega, Bool.true_and]
  by_cases h5 : bk ≥ n
  · simp [h5, show ¬ bk < n by omega]
  · simp [h5, show bk < n by omega]
theorem any_find {α : Type} (p : α → Bool) (l : List α) : l.any p = (l.findIdx? p).isSome := by
  rw [List.findIdx?_isSome]
theorem check_eq {K : Nat} {r : List Int} {n bk : Int} {l : List Sp} (hl : l.length ≤ 4000) (hK : l.length < K) (hK2 : 1 < K) : banks_Check_33.f K r n bk l = some (if ckS r n bk l then 0 else 140) := by
  unfold banks_Check_33.f Let
  refine (hd_cond (r := r) (n := n) (bk := bk) (fun t9 => cond t9 (some (140 : Int)) ((banks_Check_33.l0 K r n bk l K 0).bind (fun x47 => Lp.elim x47
    (fun t51 => cond (decide (t51 ≥ 0)) (some 140) ((banks_Check_33.l1 K r n bk l K 1).bind (fun x87 => Lp.elim x87 (fun _ => cond (!false) (some 140) (some 0)) (fun _ => cond (!true) (some 140) (some 0)))))
    (fun _ => cond (decide ((-1 : Int) ≥ 0)) (some 140) ((banks_Check_33.l1 K r n bk l K 1).bind (fun x87 => Lp.elim x87 (fun _ => cond (!false) (some 140) (some 0)) (fun _ => cond (!true) (some 140) (some 0))))))))).trans ?_
  unfold ckS
  cases hh : hdS r n bk with
  | false => rfl
  | true =>
    have hn : 1 ≤ n ∧ n ≤ 8 := by
      unfold hdS at hh
      simp only [Bool.and_eq_true, decide_eq_true_eq] at hh
      omega
    simp only [Bool.not_true, cond_f, Bool.true_and]
    have h0 := search0 (fun k t => banks_Check_33.l0 K r n bk l k t) l (l.length : Int) rfl (badS n) (fun t => t) (by omega) (fun k t => by
      show banks_Check_33.l0 K r n bk l (k + 1) t = _
      rw [banks_Check_33.l0]
      unfold badS Let
      rw [wrap_i64 (x := 16384 * n) (by omega) (by omega), wrap_i64 (x := 65536 + 16384 * n) (by omega) (by omega)]
      by_cases h1 : ((rdD l t).2 == 0) = true
      · simp only [h1, cond_t, Bool.true_or]
      · by_cases h2 : decide ((rdD l t).1 < 0) = true
        · simp only [Bool.eq_false_iff.2 h1, h2, cond_t, cond_f, Bool.true_or, Bool.or_true]
        · simp only [Bool.eq_false_iff.2 h1, Bool.eq_false_iff.2 h2, cond_t, cond_f, Bool.false_or]) hK
    erw [h0]
    rw [any_find]
    cases hj : l.findIdx? (badS n) with
    | some j =>
      simp only [Option.bind_some, Lp.elim]
      rw [cond_of (by simp)]
      rfl
    | none =>
      simp only [Option.bind_some, Lp.elim]
      rw [cond_no (by decide)]
      by_cases hl0 : l.length = 0
      · obtain ⟨K', rfl⟩ : ∃ k, K = k + 1 := ⟨K - 1, by omega⟩
        rw [banks_Check_33.l1, cond_no (by simp; omega), hl0]
        rfl
      · have h1 := searchI (fun k t => banks_Check_33.l1 K r n bk l k t) l.length (lowS l) () (fun k => by
          show banks_Check_33.l1 K r n bk l (k + 1) _ = _
          rw [banks_Check_33.l1, cond_no (by simp)])
        have h2 : ∀ (m k i : Nat), 1 ≤ i → i + m = l.length → m < k → banks_Check_33.l1 K r n bk l k (i : Int) = some (if (List.range' i m).any (lowS l) then Lp.ret () else Lp.go ()) := by
          intro m
          induction m with
          | zero =>
            intro k i h1 hi hk
            obtain ⟨k, rfl⟩ : ∃ j, k = j + 1 := ⟨k - 1, by omega⟩
            rw [banks_Check_33.l1, cond_no (by simp; omega)]
            rfl
          | succ m ih =>
            intro k i h1 hi hk
            obtain ⟨k, rfl⟩ : ∃ j, k = j + 1 := ⟨k - 1, by omega⟩
            have hlt : i < l.length := by omega
            have hw : IntKind.wrap .i64 ((i : Int) - 1) = ((i - 1 : Nat) : Int) := by rw [wrap_i64 (by omega) (by omega)]; omega
            rw [banks_Check_33.l1, cond_of (by simp; omega), cond_of (inR_nat hlt), hw]
            simp only [banks_Check_2_58.f, Option.bind_some]
            rw [cond_of (inR_nat (by omega)), wrap_nat (by omega), List.range'_succ, List.any_cons, ih k (i + 1) (by omega) (by omega) (by omega)]
            rw [show decide ((rdD l (i : Int)).1 ≤ (rdD l ((i - 1 : Nat) : Int)).1) = lowS l i from rfl]
            cases lowS l i with
            | true => simp
            | false => rw [Bool.false_or]; rfl
        have h3 := h2 (l.length - 1) K 1 (by omega) (by omega) (by omega)
        erw [h3]
        cases (List.range' 1 (l.length - 1)).any (lowS l) <;> rfl
theorem rcheck_eq {K : Nat} {r : List Int} {n bk : Int} {l : List Sp} (hl : l.length ≤ 4000) (hK : l.length < K) : charabancref19_Check_34.f K r n bk l = some (if ckS r n bk l then 0 else 140) := by
  unfold charabancref19_Check_34.f Let
  refine (hd_cond (r := r) (n := n) (bk := bk) (fun t9 => cond t9 (some (140 : Int)) ((charabancref19_Check_34.l0 K r n bk l K 0).bind (fun x68 => Lp.elim x68 (fun _ => some 140) (fun _ => some 0))))).trans ?_
  unfold ckS
  cases hh : hdS r n bk with
  | false => rfl
  | true =>
    have hn : 1 ≤ n ∧ n ≤ 8 := by
      unfold hdS at hh
      simp only [Bool.and_eq_true, decide_eq_true_eq] at hh
      omega
    simp only [Bool.not_true, cond_f, Bool.true_and]
    have h1 := searchI (fun k t => charabancref19_Check_34.l0 K r n bk l k t) l.length (fun i => badS n (rdD l (i : Int)) || (decide (0 < i) && lowS l i)) () (fun k => by
        show charabancref19_Check_34.l0 K r n bk l (k + 1) _ = _
        rw [charabancref19_Check_34.l0, cond_no (by simp)]) (fun k i hi => by
        show charabancref19_Check_34.l0 K r n bk l (k + 1) _ = _
        rw [charabancref19_Check_34.l0, cond_of (by simp; omega), cond_of (inR_nat hi), wrap_nat (by omega)]
        unfold Let badS
        rw [wrap_i64 (x := 16384 * n) (by omega) (by omega), wrap_i64 (x := 65535 + 16384 * n) (by omega) (by omega)]
        by_cases h1 : ((rdD l (i : Int)).2 == 0) = true
        · simp only [h1, cond_t, Bool.true_or, if_true]
        · by_cases h2 : (rdD l (i : Int)).1 < 0
          · simp only [Bool.eq_false_iff.2 h1, decide_eq_true h2, cond_t, cond_f, Bool.true_or, Bool.or_true, if_true]
          · by_cases h3 : (rdD l (i : Int)).1 > 65535 + 16384 * n
            · simp only [Bool.eq_false_iff.2 h1, decide_eq_false h2, decide_eq_true h3, decide_eq_true (show (rdD l (i : Int)).1 ≥ 65536 + 16384 * n by omega), cond_t, cond_f, Bool.true_or, Bool.or_true, if_true]
            · simp only [Bool.eq_false_iff.2 h1, decide_eq_false h2, decide_eq_false h3, decide_eq_false (show ¬ (rdD l (i : Int)).1 ≥ 65536 + 16384 * n by omega), cond_t, cond_f, Bool.false_or]
              by_cases h4 : 0 < i
              · have hw : IntKind.wrap .i64 ((i : Int) - 1) = ((i - 1 : Nat) : Int) := by rw [wrap_i64 (by omega) (by omega)]; omega
                rw [cond_of (decide_eq_true (by omega)), hw, cond_of (inR_nat (by omega)), decide_eq_true h4]
                unfold lowS
                cases decide ((rdD l (i : Int)).1 ≤ (rdD l ((i - 1 : Nat) : Int)).1) <;> simp
              · rw [cond_no (decide_eq_false (by omega)), decide_eq_false h4]
                simp) l.length K 0 (by omega) hK
    simp only [Int.ofNat_zero] at h1
    erw [h1]
    have hany : (List.range' 0 l.length).any (fun i => badS n (rdD l (i : Int)) || (decide (0 < i) && lowS l i)) = (l.any (badS n) || (List.range' 1 (l.length - 1)).any (lowS l)) := by
      rw [Bool.eq_iff_iff]
      simp only [List.any_eq_true, Bool.or_eq_true, Bool.and_eq_true, decide_eq_true_eq, List.mem_range'_1]
      constructor
      · rintro ⟨i, hi, h | ⟨h0, h⟩⟩
        · left
          have hlt : i < l.length := by omega
          rw [rdD_nat l hlt] at h
          exact ⟨_, List.getElem_mem hlt, h⟩
        · exact .inr ⟨i, by omega, h⟩
      · rintro (⟨x, hx, h⟩ | ⟨i, hi, h⟩)
        · obtain ⟨i, hi, rfl⟩ := List.getElem_of_mem hx
          exact ⟨i, by omega, .inl (by rw [rdD_nat l hi]; exact h)⟩
        · exact ⟨i, by omega, .inr ⟨by omega, h⟩⟩
    rw [hany]
    cases l.any (badS n) <;> cases (List.range' 1 (l.length - 1)).any (lowS l) <;> rfl
end Go.Proofs.YtbcepghanbkncaaDoor.Im
