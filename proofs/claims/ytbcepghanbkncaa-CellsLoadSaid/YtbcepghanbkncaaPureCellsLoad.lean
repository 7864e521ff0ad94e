/- The plain law of CellsLoad. -/
import Derived.Test.YtbcepghanbkncaaCelCellsLoad
import Derived.Test.YtbcepghanbkncaaCelLibE
set_option linter.unusedVariables false
namespace Go.Proofs.Ytbcepghanbkncaa.Pure
open Go.RowKit Go.Eng Go.Proofs.Ytbcepghanbkncaa.Cel
theorem CellsLoad (a0 : List (Int × Int)) (a1 : Int) (a2 : List Int) (w0 : (a0.length * 4 ≤ 140737488351232 ∧ ∀ x ∈ a0, ((Lit.int .u16 x.1).wf = true ∧ (Lit.int .u8 x.2).wf = true))) (w1 : (Lit.int .u16 a1).wf = true) (w2 : (a2.length * 1 ≤ 140737488351232 ∧ ∀ x ∈ a2, (Lit.int .u8 x).wf = true)) : ∃ K, charabanclaw14_CellsLoad_4.f K a0 a1 a2 = some true := by
  have ho := okC_of w0.2
  have ha := w16 w1
  refine ⟨1000, ?_⟩
  unfold charabanclaw14_CellsLoad_4.f
  rw [up14, Option.bind_some]
  simp only [Let]
  show cond (decide ((a0.length : Int) > 40)) _ _ = _
  by_cases hl : (a0.length : Int) > 40
  · rw [decide_eq_true hl]; rfl
  · by_cases hb : (a2.length : Int) > 60
    · rw [decide_eq_false hl, decide_eq_true hb]; rfl
    · have l1 := memC_len (a0 ++ cellsFrom a1 a2)
      rw [List.length_append, cellsFrom_len] at l1
      have hd : dumpC (getC (memC (a0 ++ cellsFrom a1 a2))) a1 a2.length = a2 := by
        rw [show getC (memC (a0 ++ cellsFrom a1 a2)) = getC (a0 ++ cellsFrom a1 a2) from funext fun k => memC_get _ k]
        exact dump_loaded a2 a0 a1 ha (by omega)
      rw [decide_eq_false hl, decide_eq_false hb, cond_f, cond_f, goLoad (by omega) (by omega), refLoad (by omega) (by omega) ho ha, Option.bind_some, Option.bind_some, same (by omega), Option.bind_some,
        goDump (l := a0) (by omega) a1 (p := (a2.length : Int)) (by omega), refDump (by omega) ha (by omega), Option.bind_some, Option.bind_some, BEq.rfl,
        goDump (l := memC (a0 ++ cellsFrom a1 a2)) (by omega) a1 (by omega), Option.bind_some, show ((a2.length : Int)).toNat = a2.length by omega, hd, BEq.rfl, goDump (l := a0) (by omega) a1 (by omega)]
      rfl
end Go.Proofs.Ytbcepghanbkncaa.Pure
