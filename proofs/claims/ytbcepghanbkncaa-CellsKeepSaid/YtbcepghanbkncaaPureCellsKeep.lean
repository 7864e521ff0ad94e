/- The plain law of CellsKeep. -/
import Derived.Test.YtbcepghanbkncaaCelCellsKeep
import Derived.Test.YtbcepghanbkncaaCelLibE
set_option linter.unusedVariables false
namespace Go.Proofs.Ytbcepghanbkncaa.Pure
open Go.RowKit Go.Eng Go.Proofs.Ytbcepghanbkncaa.Cel
theorem keep_loop {l m n : List Cel} {a b : Int} (hm : m.length < 900) (hn : n.length < 900) (h : ∀ p ∈ m, p.1 ≠ a → getC n p.1 = p.2) : ∀ (q k i : Nat), i ≤ m.length → m.length - i = q → q < k → charabanclaw14_CellsKeep_6.l0 1000 l a b m n k (i : Int) = some (Lp.go ())
  | q, 0, i, _, _, hk => by omega
  | q, k + 1, i, h1, h2, hk => by
    rw [charabanclaw14_CellsKeep_6.l0.eq_2]
    by_cases hi : i < m.length
    · have hp := h _ (List.getElem_mem hi)
      rw [← rdD_nat m hi] at hp
      rw [decide_eq_true (by omega), cond_t, inR_nat hi, cond_t, wrap_i64 (by omega) (by omega), goGet hn]
      have ih := keep_loop (l := l) (b := b) hm hn h (q - 1) k (i + 1) (by omega) (by omega) (by omega)
      simp only [Let, Option.bind_some]
      by_cases ha : (rdD m (i : Int)).1 = a
      · rw [show ((rdD m (i : Int)).1 != a) = false by simpa using ha]; exact ih
      · rw [show ((rdD m (i : Int)).1 != a) = true by simpa using ha, cond_t, hp ha, bne_self_eq_false]; exact ih
    · rw [decide_eq_false (by omega)]; rfl
theorem CellsKeep (a0 : List (Int × Int)) (a1 : Int) (a2 : Int) (w0 : (a0.length * 4 ≤ 140737488351232 ∧ ∀ x ∈ a0, ((Lit.int .u16 x.1).wf = true ∧ (Lit.int .u8 x.2).wf = true))) (w1 : (Lit.int .u16 a1).wf = true) (w2 : (Lit.int .u8 a2).wf = true) : ∃ K, charabanclaw14_CellsKeep_6.f K a0 a1 a2 = some true := by
  have ho := okC_of w0.2
  have ha := w16 w1
  refine ⟨1000, ?_⟩
  unfold charabanclaw14_CellsKeep_6.f
  rw [up14, Option.bind_some]
  simp only [Let]
  show cond (decide ((a0.length : Int) > 60)) _ _ = _
  by_cases hl : (a0.length : Int) > 60
  · rw [decide_eq_true hl]; rfl
  · have l1 := memC_len a0
    have ho1 : okC (a0 ++ [(a1, a2)]) := okC_app ho (fun p hp => by rw [List.mem_singleton.1 hp]; exact ha)
    have l2 := memC_len (a0 ++ [(a1, a2)])
    simp only [List.length_append, List.length_cons, List.length_nil] at l2
    have hput : memC (memC a0 ++ [(a1, a2)]) = memC (a0 ++ [(a1, a2)]) := memC_app _ _
    have g1 : getC (memC (a0 ++ [(a1, a2)])) a1 = a2 := by rw [memC_get, getC_snoc, if_pos rfl]
    have hback : memC (memC (a0 ++ [(a1, a2)]) ++ [(a1, getC a0 a1)]) = memC a0 := memC_congr fun k => by
      rw [getC_snoc, memC_get, getC_snoc]
      by_cases hk : a1 = k
      · subst hk; rw [if_pos rfl]
      · rw [if_neg hk, if_neg hk]
    have hnx : IntKind.wrap .u16 (a1 + 1) ≠ a1 := by rw [IntKind.wrap_u16]; omega
    have g2 : getC (memC (a0 ++ [(a1, a2)])) (IntKind.wrap .u16 (a1 + 1)) = getC (memC a0) (IntKind.wrap .u16 (a1 + 1)) := by rw [memC_get, memC_get, getC_snoc, if_neg (fun h => hnx h.symm)]
    have hkeep : ∀ p ∈ memC a0, p.1 ≠ a1 → getC (memC (a0 ++ [(a1, a2)])) p.1 = p.2 := by
      intro p hp hne
      rw [memC_get, getC_snoc, if_neg (fun h => hne h.symm)]
      exact (memC_ne hp).2.symm
    have hloop := keep_loop (l := a0) (b := a2) (by omega) (by omega) hkeep _ 1000 0 (by omega) rfl (by omega)
    rw [show ((0 : Nat) : Int) = 0 from rfl] at hloop
    rw [decide_eq_false hl, cond_f, goMake (by omega), Option.bind_some, goPut (l := memC a0) (by omega), hput, Option.bind_some, goGet (l := memC (a0 ++ [(a1, a2)])) (by omega) a1, Option.bind_some, g1, bne_self_eq_false, cond_f,
      check_mem (l := a0 ++ [(a1, a2)]) (by simp; omega) ho1, Option.bind_some, check_mem (l := a0) (by omega) ho, hloop]
    show (((cells_Get_13.f 1000 (memC a0) a1).bind _)) = _
    rw [goGet (l := memC a0) (by omega) a1, Option.bind_some, memC_get, goPut (l := memC (a0 ++ [(a1, a2)])) (by omega), hback, Option.bind_some, same (by omega), Option.bind_some, cond_t,
      goGet (l := memC (a0 ++ [(a1, a2)])) (by omega), Option.bind_some, goGet (l := memC a0) (by omega), Option.bind_some, g2, BEq.rfl, cond_t, goMake (l := memC a0) (by omega), memC_memC, Option.bind_some, same (by omega)]
    rfl
end Go.Proofs.Ytbcepghanbkncaa.Pure
