/- The plain law of CellsTell. -/
import Derived.Test.YtbcepghanbkncaaCelCellsTell
import Derived.Test.YtbcepghanbkncaaCelLibE
set_option linter.unusedVariables false
namespace Go.Proofs.Ytbcepghanbkncaa.Pure
open Go.RowKit Go.Eng Go.Proofs.Ytbcepghanbkncaa.Cel
theorem CellsTell (a0 : List (Int × Int)) (a1 : Int) (a2 : Int) (w0 : (a0.length * 4 ≤ 140737488351232 ∧ ∀ x ∈ a0, ((Lit.int .u16 x.1).wf = true ∧ (Lit.int .u8 x.2).wf = true))) (w1 : (Lit.int .u16 a1).wf = true) (w2 : (Lit.int .u8 a2).wf = true) : ∃ K, charabanclaw14_CellsTell_3.f K a0 a1 a2 = some true := by
  have ho := okC_of w0.2
  have ha := w16 w1
  refine ⟨1000, ?_⟩
  unfold charabanclaw14_CellsTell_3.f
  rw [up14, Option.bind_some]
  show cond (decide ((a0.length : Int) > 60)) _ _ = _
  by_cases hl : (a0.length : Int) > 60
  · rw [decide_eq_true hl]; rfl
  · obtain ⟨x, h1, h2⟩ := checks (l := a0) (by omega) ho
    have l1 := memC_len a0
    have l2 := memC_len (a0 ++ [(a1, a2)])
    simp only [List.length_append, List.length_cons, List.length_nil] at l2
    rw [decide_eq_false hl, cond_f, h1, h2, Option.bind_some, Option.bind_some, BEq.rfl, cond_t, goMake (by omega), refMake (by omega) ho, Option.bind_some, Option.bind_some, same (by omega), Option.bind_some, cond_t,
      goGet (by omega), refGet (by omega), Option.bind_some, Option.bind_some, BEq.rfl, cond_t, goPut (by omega), refPut (by omega) ho ha, Option.bind_some, Option.bind_some, same (by omega)]
    rfl
end Go.Proofs.Ytbcepghanbkncaa.Pure
