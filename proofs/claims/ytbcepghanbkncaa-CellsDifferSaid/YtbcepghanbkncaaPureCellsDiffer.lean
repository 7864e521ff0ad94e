/- The plain law of CellsDiffer. -/
import Derived.Test.YtbcepghanbkncaaCelCellsDiffer
import Derived.Test.YtbcepghanbkncaaCelLibE
set_option linter.unusedVariables false
namespace Go.Proofs.Ytbcepghanbkncaa.Pure
open Go.RowKit Go.Eng Go.Proofs.Ytbcepghanbkncaa.Cel
theorem ones_loop {a b : List Cel} (ha : a.length < 400) : ∀ (m k i : Nat) (out : List Cel), i ≤ a.length → a.length - i = m → m < k → out.length ≤ i → charabancref14_Diff_22.l0 1000 a b k out (i : Int) = some (out ++ ones (a.drop i))
  | m, 0, i, out, _, _, hk, _ => by omega
  | m, k + 1, i, out, h1, h2, hk, h3 => by
    rw [charabancref14_Diff_22.l0.eq_2]
    by_cases hi : i < a.length
    · rw [decide_eq_true (by omega), cond_t, inR_nat hi, cond_t, mayBe_of (by simp; omega) (by simp; omega), cond_t, wrap_i64 (by omega) (by omega), rd_drop hi]
      refine (ones_loop ha (m - 1) k (i + 1) _ (by omega) (by omega) (by omega) (by simp; omega)).trans ?_
      rw [List.append_assoc]; rfl
    · rw [decide_eq_false (by omega), cond_f, List.drop_eq_nil_of_le (by omega)]; simp [ones]
theorem ones_loop2 {a b : List Cel} (ha : b.length < 400) : ∀ (m k i : Nat) (out : List Cel), i ≤ b.length → b.length - i = m → m < k → out.length ≤ 400 + i → charabancref14_Diff_22.l1 1000 a b k out (i : Int) = some (out ++ ones (b.drop i))
  | m, 0, i, out, _, _, hk, _ => by omega
  | m, k + 1, i, out, h1, h2, hk, h3 => by
    rw [charabancref14_Diff_22.l1.eq_2]
    by_cases hi : i < b.length
    · rw [decide_eq_true (by omega), cond_t, inR_nat hi, cond_t, mayBe_of (by simp; omega) (by simp; omega), cond_t, wrap_i64 (by omega) (by omega), rd_drop hi]
      refine (ones_loop2 ha (m - 1) k (i + 1) _ (by omega) (by omega) (by omega) (by simp; omega)).trans ?_
      rw [List.append_assoc]; rfl
    · rw [decide_eq_false (by omega), cond_f, List.drop_eq_nil_of_le (by omega)]; simp [ones]
theorem diff_loop {a b all : List Cel} (ha : a.length < 400) (hb : b.length < 400) (hl : all.length < 900) : ∀ (m k i : Nat) (out : List Cel), i ≤ all.length → all.length - i = m → m < k → out.length ≤ i →
    charabancref14_Diff_22.l2 1000 a b all k out (i : Int) = some (out ++ ((all.drop i).filter (fun p => getC a p.1 != getC b p.1)).map (fun p => (p.1, getC b p.1)))
  | m, 0, i, out, _, _, hk, _ => by omega
  | m, k + 1, i, out, h1, h2, hk, h3 => by
    rw [charabancref14_Diff_22.l2.eq_2]
    by_cases hi : i < all.length
    · rw [decide_eq_true (by omega), cond_t, inR_nat hi, cond_t, refGet (by omega), refGet (by omega), Option.bind_some, Option.bind_some, Option.bind_some, mayBe_of (by simp; omega) (by simp; omega), cond_t, wrap_i64 (by omega) (by omega), rd_drop hi, List.filter_cons]
      cases hc : getC a (rdD all (i : Int)).1 != getC b (rdD all (i : Int)).1 with
      | true =>
        refine (diff_loop ha hb hl (m - 1) k (i + 1) _ (by omega) (by omega) (by omega) (by simp; omega)).trans ?_
        rw [List.append_assoc, if_pos rfl]; rfl
      | false =>
        refine (diff_loop ha hb hl (m - 1) k (i + 1) _ (by omega) (by omega) (by omega) (by omega)).trans ?_
        rw [if_neg (by decide)]
    · rw [decide_eq_false (by omega), cond_f, List.drop_eq_nil_of_le (by omega)]; simp
theorem refDiff {a b : List Cel} (ha : a.length < 400) (hb : b.length < 400) (oa : okC a) (ob : okC b) : charabancref14_Diff_22.f 1000 a b = some (diffC a b) := by
  unfold charabancref14_Diff_22.f
  have h1 := ones_loop (b := b) ha _ 1000 0 [] (by omega) rfl (by omega) (by simp)
  have h2 := ones_loop2 (a := a) hb _ 1000 0 (ones a) (by omega) rfl (by omega) (by simp [ones]; omega)
  have lm := memC_len (ones a ++ ones b)
  simp only [List.length_append, ones, List.length_map] at lm
  have h3 := diff_loop (all := memC (ones a ++ ones b)) ha hb (by unfold ones; omega) _ 1000 0 [] (by omega) rfl (by unfold ones; omega) (by simp)
  rw [show ((0 : Nat) : Int) = 0 from rfl] at h1 h2 h3
  rw [h1, Option.bind_some, List.nil_append, List.drop_zero, h2, Option.bind_some, List.drop_zero, refMake (by simp [ones]; omega) (okC_app (ones_ok oa) (ones_ok ob)), Option.bind_some, h3]
  rfl
theorem put_loop {a b D : List Cel} (hD : D.length < 400) : ∀ (m k i : Nat) (l : List Cel), i ≤ D.length → D.length - i = m → m < k → l.length < 200 + i → charabanclaw14_CellsDiffer_5.l0 1000 a b D k (memC l) (i : Int) = some (memC (l ++ D.drop i))
  | m, 0, i, l, _, _, hk, _ => by omega
  | m, k + 1, i, l, h1, h2, hk, h3 => by
    rw [charabanclaw14_CellsDiffer_5.l0.eq_2]
    by_cases hi : i < D.length
    · have lm := memC_len l
      rw [decide_eq_true (by omega), cond_t, inR_nat hi, cond_t, goPut (by omega), Option.bind_some, wrap_i64 (by omega) (by omega), memC_app, rd_drop hi]
      refine (put_loop hD (m - 1) k (i + 1) _ (by omega) (by omega) (by omega) (by simp; omega)).trans ?_
      rw [List.append_assoc]; rfl
    · rw [decide_eq_false (by omega), cond_f, List.drop_eq_nil_of_le (by omega), List.append_nil]
theorem CellsDiffer (a0 : List (Int × Int)) (a1 : List (Int × Int)) (w0 : (a0.length * 4 ≤ 140737488351232 ∧ ∀ x ∈ a0, ((Lit.int .u16 x.1).wf = true ∧ (Lit.int .u8 x.2).wf = true))) (w1 : (a1.length * 4 ≤ 140737488351232 ∧ ∀ x ∈ a1, ((Lit.int .u16 x.1).wf = true ∧ (Lit.int .u8 x.2).wf = true))) : ∃ K, charabanclaw14_CellsDiffer_5.f K a0 a1 = some true := by
  have oa := okC_of w0.2
  have ob := okC_of w1.2
  refine ⟨1000, ?_⟩
  unfold charabanclaw14_CellsDiffer_5.f
  rw [up14, Option.bind_some]
  simp only [Let]
  show cond (decide ((a0.length : Int) > 40)) _ _ = _
  by_cases hl : (a0.length : Int) > 40
  · rw [decide_eq_true hl]; rfl
  · by_cases hb : (a1.length : Int) > 40
    · rw [decide_eq_false hl, decide_eq_true hb]; rfl
    · have ld : (diffC a0 a1).length ≤ 80 := by
        unfold diffC
        rw [List.length_map]
        refine Nat.le_trans (List.length_filter_le _ _) (Nat.le_trans (memC_len _) ?_)
        simp [ones]; omega
      have lm := memC_len a1
      have hp := put_loop (a := a0) (b := a1) (D := diffC a0 a1) (by omega) _ 1000 0 a0 (by omega) rfl (by omega) (by omega)
      rw [show ((0 : Nat) : Int) = 0 from rfl, List.drop_zero, memC_congr (diffC_put a0 a1)] at hp
      rw [decide_eq_false hl, decide_eq_false hb, cond_f, cond_f, goDiff (a := a0) (b := a1) (by omega) (by omega), Option.bind_some, refDiff (by omega) (by omega) oa ob, Option.bind_some, same (by omega), Option.bind_some, goMake (l := a0) (by omega), Option.bind_some, hp, Option.bind_some,
        goMake (l := a1) (by omega), Option.bind_some, same (by omega), Option.bind_some, goDiff (a := a0) (b := a0) (by omega) (by omega), diffC_self, Option.bind_some, Option.bind_some, goDiff (a := a1) (b := a0) (by omega) (by omega), Option.bind_some, diffC_len a1 a0, BEq.rfl]
      rfl
end Go.Proofs.Ytbcepghanbkncaa.Pure
