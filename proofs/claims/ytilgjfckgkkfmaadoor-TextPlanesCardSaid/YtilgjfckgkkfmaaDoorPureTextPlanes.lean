/- The plain law of TextPlanes. -/
import Derived.Test.YtilgjfckgkkfmaaDoorTexTextPlanes
import Derived.Test.YtilgjfckgkkfmaaDoorTexLibE
set_option linter.unusedVariables false
namespace Go.Proofs.YtilgjfckgkkfmaaDoor.Pure
open Go.RowKit Go.Eng Go.Proofs.YtilgjfckgkkfmaaDoor.Tex
theorem planes {p d i : Int} (hd : 0 ≤ d ∧ d < 256) (hi : 0 ≤ i ∧ i < 65536) : ∀ (m k : Nat) (c : Int), 0 ≤ c → c ≤ 256 → (256 - c).toNat = m → m < k → charabanclaw09_TextPlanes_8.l0 1000 p d i k c = some (Lp.go ())
  | m, 0, c, _, _, _, h => by omega
  | m, k + 1, c, h1, h2, hm, hk => by
    rw [charabanclaw09_TextPlanes_8.l0.eq_2]
    by_cases hc : c < 256
    · have ec : IntKind.wrap .u8 c = c := by rw [lo_imm]; omega
      rw [decide_eq_true hc, cond_t, ec, goShow ⟨h1, hc⟩ hd hi, refShow ⟨h1, hc⟩ hd hi, Option.bind_some, Option.bind_some, BEq.rfl, wrap_i64 (by omega) (by omega)]
      exact planes hd hi (m - 1) k (c + 1) (by omega) (by omega) (by omega) (by omega)
    · rw [decide_eq_false hc]; rfl
theorem TextPlanes (a0 : Int) (a1 : Int) (a2 : Int) (w0 : (Lit.int .i64 a0).wf = true) (w1 : (Lit.int .u8 a1).wf = true) (w2 : (Lit.int .u16 a2).wf = true) : ∃ K, charabanclaw09_TextPlanes_8.f K a0 a1 a2 = some true := by
  refine ⟨1000, ?_⟩
  unfold charabanclaw09_TextPlanes_8.f
  rw [up, Option.bind_some, planes (w8 w1) (w16 w2) 256 1000 0 (by omega) (by omega) (by omega) (by omega)]
  rfl
end Go.Proofs.YtilgjfckgkkfmaaDoor.Pure
