/- Memories in banks: what the told functions say, in words of lists. -/
import Derived.Test.YtbcepghanbkncaaDoorIm4
import Derived.Test.YtbcepghanbkncaaDoorEngPure
set_option linter.unusedVariables false
set_option linter.unusedSimpArgs false
namespace Go.Proofs.YtbcepghanbkncaaDoor.Im
open Go.RowKit Go.Eng
abbrev Sp := Int × Int
theorem clone_eq {K : Nat} {l : List Sp} (h : l.length ≤ 5000) : banks_Spot_82.f K l = some l := by
  unfold banks_Spot_82.f
  rw [cond_of (mayBe_of (by simp; omega) (by simp; omega))]
  simp
/-! ### plain, same -/
theorem same_eq {K : Nat} {r : List Int} {n b : Int} {l : List Sp} (hl : l.length ≤ 5000) (hK : l.length < K) : charabancref19_Same_26.f K r n b l r n b l = some true := by
  unfold charabancref19_Same_26.f Let
  have := search0 (fun k t => charabancref19_Same_26.l0 K r n b l r n b l k t) l (l.length : Int) rfl (fun x => false) (fun _ => ()) (by omega)
    (fun k t => by
      show charabancref19_Same_26.l0 K r n b l r n b l (k + 1) t = _
      rw [charabancref19_Same_26.l0]
      cases h1 : decide (t < (l.length : Int)) <;> cases h2 : inR t l.length <;> simp) hK
  have hn : l.findIdx? (fun _ => false) = none := by simp
  simp only [hn] at this
  simp only [beq_self_eq_true, Bool.not_true, cond_f, bne_self_eq_false]
  erw [this]
  rfl
/-! ### Read -/
def rdS (l : List Sp) (at_ : Int) : Int := match l.findIdx? (fun x => x.1 == at_) with | some j => (rdD l (j : Int)).2 | none => 0
theorem findIdx_lt {α : Type} {p : α → Bool} {l : List α} {j : Nat} (h : l.findIdx? p = some j) : j < l.length := by
  obtain ⟨h1, _⟩ := List.findIdx?_eq_some_iff_getElem.1 h
  exact h1
/-! ### put -/
/-- A row behind a byte at a place: what lies up to it, the byte, what lies behind. -/
def ptS (l : List Sp) (at_ b : Int) : List Sp :=
  (l.takeWhile (fun x => !(decide (x.1 > at_)))).filter (fun x => !(x.1 == at_)) ++ ((if b = 0 then [] else [(at_, b)]) ++ (l.dropWhile (fun x => !(decide (x.1 > at_)))).filter (fun x => !(x.1 == at_)))
theorem ptS_length (l : List Sp) (at_ b : Int) : (ptS l at_ b).length ≤ l.length + 1 := by
  unfold ptS
  have h1 := List.length_filter_le (fun x : Sp => !(x.1 == at_)) (l.takeWhile (fun x => !(decide (x.1 > at_))))
  have h2 := List.length_filter_le (fun x : Sp => !(x.1 == at_)) (l.dropWhile (fun x => !(decide (x.1 > at_))))
  have h3 : (l.takeWhile (fun x => !(decide (x.1 > at_)))).length + (l.dropWhile (fun x => !(decide (x.1 > at_)))).length = l.length := by
    rw [← List.length_append, List.takeWhile_append_dropWhile]
  simp only [List.length_append]
  split <;> simp only [List.length_nil, List.length_cons] <;> omega
theorem del_eq {K : Nat} (L : Nat → List Sp → Int → Int → Option (List Sp × Int)) (S : Nat → Int → Option (Lp Int Unit)) (q : Sp → Bool) (l : List Sp) (hl : l.length ≤ 5000) (hK : l.length < K)
    (hS : ∀ k t, S (k + 1) t = cond (decide (t < (l.length : Int))) (cond (inR t l.length) (cond (q (rdD l t)) (some (Lp.ret t)) (S k (IntKind.wrap .i64 (t + 1)))) none) (some (Lp.go ())))
    (hL : ∀ k ys w r, L (k + 1) ys w r = cond (decide (r < (ys.length : Int))) (cond (inR r ys.length) (cond (!(q (rdD ys r))) (cond (inR w ys.length) (L k (stD ys w (rdD ys r)) (IntKind.wrap .i64 (w + 1)) (IntKind.wrap .i64 (r + 1))) none) (L k ys w (IntKind.wrap .i64 (r + 1)))) none) (some (ys, w)))
    {ρ : Type} (J : List Sp → Option ρ) :
    (S K 0).bind (fun x => Lp.elim x (fun t => cond (t == (-1)) (J l) ((L K l t (IntKind.wrap .i64 (t + 1))).bind (fun y => cond (cutR y.2 (y.1.length : Int) y.1.length) (cond (cutR 0 y.2 (clrD y.1 y.2 (0, 0)).length) (J (cutL (clrD y.1 y.2 (0, 0)) 0 y.2)) none) none)))
      (fun _ => cond ((-1 : Int) == (-1)) (J l) ((L K l (-1) (IntKind.wrap .i64 ((-1) + 1))).bind (fun y => cond (cutR y.2 (y.1.length : Int) y.1.length) (cond (cutR 0 y.2 (clrD y.1 y.2 (0, 0)).length) (J (cutL (clrD y.1 y.2 (0, 0)) 0 y.2)) none) none)))) = J (l.filter (fun x => !(q x))) := by
  have := search0 S l (l.length : Int) rfl q (fun t => t) (by omega) hS hK
  rw [this]
  cases hj : l.findIdx? q with
  | none =>
    have hall : l.filter (fun x => !(q x)) = l := by
      rw [List.filter_eq_self]
      intro x hx
      rw [List.findIdx?_eq_none_iff] at hj
      simpa using hj x hx
    rw [hall]
    rfl
  | some j =>
    have hlt := findIdx_lt hj
    obtain ⟨_, hq, hbef⟩ := List.findIdx?_eq_some_iff_getElem.1 hj
    have htake : (l.take (j + 1)).filter (fun x => !(q x)) = l.take j := by
      rw [List.take_succ_eq_append_getElem hlt, List.filter_append]
      have h1 : (l.take j).filter (fun x => !(q x)) = l.take j := by
        rw [List.filter_eq_self]
        intro x hx
        obtain ⟨i, hi, rfl⟩ := List.getElem_of_mem hx
        simp only [List.length_take] at hi
        have := hbef i (by omega)
        simpa using this
      rw [h1]
      simp [hq]
    obtain ⟨ys, w, h1, h2, h3, h4⟩ := delD L q l (by omega) hL (l.length - (j + 1)) K (j + 1) j l (by omega) (by omega) rfl (by omega) htake.symm rfl
    simp only [Option.bind_some, Lp.elim]
    rw [cond_no (by simp), wrap_nat (by omega), h1]
    simp only [Option.bind_some]
    rw [cond_of (cutR_of (by omega) (by omega) (by omega)), cond_of (cutR_of (by omega) (by omega) (by rw [clrD_length _ _ _ (by omega)]; omega)), cut_clr ys w _ (by omega), h4]
theorem take_while (l : List Sp) (p : Sp → Bool) : ∀ j, l.findIdx? p = some j → l.take j = l.takeWhile (fun x => !(p x)) ∧ l.drop j = l.dropWhile (fun x => !(p x)) := by
  induction l with
  | nil => intro j h; simp at h
  | cons x l ih =>
    intro j h
    rw [List.findIdx?_cons] at h
    cases hp : p x with
    | true =>
      simp [hp] at h
      subst h
      simp [List.takeWhile_cons, List.dropWhile_cons, hp]
    | false =>
      simp only [hp, Bool.false_eq_true, if_false, Option.map_eq_some_iff] at h
      obtain ⟨i, hi, rfl⟩ := h
      obtain ⟨h1, h2⟩ := ih i hi
      simp [List.takeWhile_cons, List.dropWhile_cons, hp, h1, h2]
theorem take_all {p : Sp → Bool} : ∀ {l : List Sp}, (∀ x ∈ l, p x = true) → l.takeWhile p = l ∧ l.dropWhile p = []
  | [], _ => ⟨rfl, rfl⟩
  | x :: l, h => by
    have hx := h x (by simp)
    obtain ⟨h1, h2⟩ := take_all (l := l) (fun y hy => h y (by simp [hy]))
    simp [List.takeWhile_cons, List.dropWhile_cons, hx, h1, h2]
theorem put_eq {K : Nat} {r : List Int} {n bk : Int} {l : List Sp} {a b : Int} (hl : l.length ≤ 4000) (hK : l.length < K) : banks_Store_put_64.f K r n bk l a b = some (r, n, bk, ptS l a b) := by
  unfold banks_Store_put_64.f Let
  have hs := search0 (fun k t => banks_Store_put_64.l0 K r n bk l a b k t) l (l.length : Int) rfl (fun x => decide (x.1 > a)) (fun t => t) (by omega) (fun k t => by
    show banks_Store_put_64.l0 K r n bk l a b (k + 1) t = _
    rw [banks_Store_put_64.l0]
    have hc : cmp_Compare_int_79.f K (rdD l t).1 a = some (if (rdD l t).1 < a then -1 else if (rdD l t).1 > a then 1 else 0) := by
      unfold cmp_Compare_int_79.f cmp_isNaN_int_95.f
      simp only [bne_self_eq_false, Option.bind_some, cond_f]
      by_cases h1 : (rdD l t).1 < a
      · simp [h1]
      · by_cases h2 : (rdD l t).1 > a
        · simp [h1, h2]
        · simp [h1, h2]
    rw [hc]
    simp only [Option.bind_some]
    have : decide ((if (rdD l t).1 < a then (-1 : Int) else if (rdD l t).1 > a then 1 else 0) > 0) = decide ((rdD l t).1 > a) := by
      by_cases h1 : (rdD l t).1 < a
      · simp [h1]; omega
      · by_cases h2 : (rdD l t).1 > a
        · simp [h1, h2]
        · simp [h1, h2]
    rw [this]) hK
  have key : ∀ j : Nat, j ≤ l.length → l.take j = l.takeWhile (fun x => !(decide (x.1 > a))) → l.drop j = l.dropWhile (fun x => !(decide (x.1 > a))) → 
      (cond (cutR 0 (j : Int) l.length) ((banks_Spot_82.f K (cutL l 0 (j : Int))).bind fun t63 => Let (fun (t147 : (List (Int × Int))) => cond (cutR (j : Int) (l.length : Int) l.length) ((banks_Spot_82.f K (cutL l (j : Int) (l.length : Int))).bind fun t161 => Let (fun (t251 : (List (Int × Int))) => cond (b != 0) (cond (mayBe (t147.length + [(a, b)].length) 16) (cond (mayBe ((t147 ++ [(a, b)]).length + t251.length) 16) (some (r, n, bk, ((t147 ++ [(a, b)]) ++ t251))) none) none) (cond (mayBe (t147.length + t251.length) 16) (some (r, n, bk, (t147 ++ t251))) none)) (fun j254 => Let (fun (t194 : Int) => cond (t194 == (-1)) (j254 t161) ((banks_Store_put_64.l4 K r n bk l a b t147 K t161 t194 (IntKind.wrap .i64 (t194 + 1))).bind (fun yx235 => cond (cutR yx235.2 (yx235.1.length : Int) yx235.1.length) (cond (cutR 0 yx235.2 (clrD yx235.1 yx235.2 (0, 0)).length) (j254 (cutL (clrD yx235.1 yx235.2 (0, 0)) 0 yx235.2)) none) none))) (fun j197 => (banks_Store_put_64.l3 K r n bk l a b t161 (t161.length : Int) t147 K 0).bind (fun x187 => Lp.elim x187 (fun t191 => j197 t191) (fun _ => j197 (-1)))))) none) (fun j150 => Let (fun (t93 : Int) => cond (t93 == (-1)) (j150 t63) ((banks_Store_put_64.l2 K r n bk l a b K t63 t93 (IntKind.wrap .i64 (t93 + 1))).bind (fun yx131 => cond (cutR yx131.2 (yx131.1.length : Int) yx131.1.length) (cond (cutR 0 yx131.2 (clrD yx131.1 yx131.2 (0, 0)).length) (j150 (cutL (clrD yx131.1 yx131.2 (0, 0)) 0 yx131.2)) none) none))) (fun j96 => (banks_Store_put_64.l1 K r n bk l a b t63 (t63.length : Int) K 0).bind (fun x86 => Lp.elim x86 (fun t90 => j96 t90) (fun _ => j96 (-1)))))) none) = some (r, n, bk, ptS l a b) := by
    intro j hj ht hd
    have e2 : cutL l (j : Int) (l.length : Int) = l.drop j := by simp [cutL]
    rw [cond_of (cutR_of (by omega) (by omega) (by omega)), cutL_nat, clone_eq (by simp; omega)]
    simp only [Option.bind_some, Let]
    have d1 := fun {ρ : Type} (J : List Sp → Option ρ) => del_eq (K := K) (fun k ys w r' => banks_Store_put_64.l2 K r n bk l a b k ys w r') (fun k t => banks_Store_put_64.l1 K r n bk l a b (l.take j) ((l.take j).length : Int) k t) (fun x => x.1 == a) (l.take j) (by simp; omega) (by simp; omega) (fun k t => rfl) (fun k ys w r' => rfl) J
    refine (d1 (fun t147 : List Sp => cond (cutR (j : Int) (l.length : Int) l.length) ((banks_Spot_82.f K (cutL l (j : Int) (l.length : Int))).bind fun t161 => (banks_Store_put_64.l3 K r n bk l a b t161 (t161.length : Int) t147 K 0).bind (fun x187 => Lp.elim x187 (fun t194 => cond (t194 == (-1)) ((fun t251 : List Sp => cond (b != 0) (cond (mayBe (t147.length + [(a, b)].length) 16) (cond (mayBe ((t147 ++ [(a, b)]).length + t251.length) 16) (some (r, n, bk, ((t147 ++ [(a, b)]) ++ t251))) none) none) (cond (mayBe (t147.length + t251.length) 16) (some (r, n, bk, (t147 ++ t251))) none)) t161) ((banks_Store_put_64.l4 K r n bk l a b t147 K t161 t194 (IntKind.wrap .i64 (t194 + 1))).bind (fun yx235 => cond (cutR yx235.2 (yx235.1.length : Int) yx235.1.length) (cond (cutR 0 yx235.2 (clrD yx235.1 yx235.2 (0, 0)).length) ((fun t251 : List Sp => cond (b != 0) (cond (mayBe (t147.length + [(a, b)].length) 16) (cond (mayBe ((t147 ++ [(a, b)]).length + t251.length) 16) (some (r, n, bk, ((t147 ++ [(a, b)]) ++ t251))) none) none) (cond (mayBe (t147.length + t251.length) 16) (some (r, n, bk, (t147 ++ t251))) none)) (cutL (clrD yx235.1 yx235.2 (0, 0)) 0 yx235.2)) none) none))) (fun _ => cond ((-1 : Int) == (-1)) ((fun t251 : List Sp => cond (b != 0) (cond (mayBe (t147.length + [(a, b)].length) 16) (cond (mayBe ((t147 ++ [(a, b)]).length + t251.length) 16) (some (r, n, bk, ((t147 ++ [(a, b)]) ++ t251))) none) none) (cond (mayBe (t147.length + t251.length) 16) (some (r, n, bk, (t147 ++ t251))) none)) t161) ((banks_Store_put_64.l4 K r n bk l a b t147 K t161 (-1) (IntKind.wrap .i64 ((-1) + 1))).bind (fun yx235 => cond (cutR yx235.2 (yx235.1.length : Int) yx235.1.length) (cond (cutR 0 yx235.2 (clrD yx235.1 yx235.2 (0, 0)).length) ((fun t251 : List Sp => cond (b != 0) (cond (mayBe (t147.length + [(a, b)].length) 16) (cond (mayBe ((t147 ++ [(a, b)]).length + t251.length) 16) (some (r, n, bk, ((t147 ++ [(a, b)]) ++ t251))) none) none) (cond (mayBe (t147.length + t251.length) 16) (some (r, n, bk, (t147 ++ t251))) none)) (cutL (clrD yx235.1 yx235.2 (0, 0)) 0 yx235.2)) none) none))))) none)).trans ?_
    rw [cond_of (cutR_of (by omega) (by omega) (by omega)), e2, clone_eq (by simp; omega)]
    simp only [Option.bind_some]
    have d2 := fun {ρ : Type} (t147 : List Sp) (J : List Sp → Option ρ) => del_eq (K := K) (fun k ys w r' => banks_Store_put_64.l4 K r n bk l a b t147 k ys w r') (fun k t => banks_Store_put_64.l3 K r n bk l a b (l.drop j) ((l.drop j).length : Int) t147 k t) (fun x => x.1 == a) (l.drop j) (by simp; omega) (by simp; omega) (fun k t => rfl) (fun k ys w r' => rfl) J
    refine (d2 ((l.take j).filter (fun x => !(x.1 == a))) (fun t251 : List Sp => cond (b != 0) (cond (mayBe (((l.take j).filter (fun x => !(x.1 == a))).length + [(a, b)].length) 16) (cond (mayBe ((((l.take j).filter (fun x => !(x.1 == a))) ++ [(a, b)]).length + t251.length) 16) (some (r, n, bk, ((((l.take j).filter (fun x => !(x.1 == a))) ++ [(a, b)]) ++ t251))) none) none) (cond (mayBe (((l.take j).filter (fun x => !(x.1 == a))).length + t251.length) 16) (some (r, n, bk, (((l.take j).filter (fun x => !(x.1 == a))) ++ t251))) none))).trans ?_
    have l1 := List.length_filter_le (fun x : Sp => !(x.1 == a)) (l.take j)
    have l2 := List.length_filter_le (fun x : Sp => !(x.1 == a)) (l.drop j)
    simp only [List.length_take, List.length_drop] at l1 l2
    unfold ptS
    rw [← ht, ← hd]
    by_cases hb : b = 0
    · rw [cond_no (by simp [hb]), cond_of (mayBe_of (by omega) (by omega))]
      simp [hb]
    · rw [cond_of (by simpa using hb), cond_of (mayBe_of (by simp; omega) (by simp; omega)), cond_of (mayBe_of (by simp; omega) (by simp; omega))]
      simp [hb]
  erw [hs]
  cases hj : l.findIdx? (fun x => decide (x.1 > a)) with
  | none =>
    simp only [Option.bind_some, Lp.elim]
    rw [cond_no (by decide)]
    have hall : ∀ x ∈ l, (!(decide (x.1 > a))) = true := by
      rw [List.findIdx?_eq_none_iff] at hj
      intro x hx
      simpa using hj x hx
    refine key l.length (Nat.le_refl _) ?_ ?_
    · rw [List.take_length]
      exact (take_all hall).1.symm
    · rw [List.drop_length]
      exact (take_all hall).2.symm
  | some j =>
    have hlt := findIdx_lt hj
    simp only [Option.bind_some, Lp.elim]
    rw [cond_of (by simp)]
    obtain ⟨h1, h2⟩ := take_while l _ j hj
    exact key j (by omega) h1 h2
end Go.Proofs.YtbcepghanbkncaaDoor.Im
