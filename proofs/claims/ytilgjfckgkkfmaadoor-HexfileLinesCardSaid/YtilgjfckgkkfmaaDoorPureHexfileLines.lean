/- The plain law of HexfileLines. -/
import Derived.Test.YtilgjfckgkkfmaaDoorHxHexfileLines
import Derived.Test.YtilgjfckgkkfmaaDoorHxLibB
set_option linter.unusedVariables false
namespace Go.Proofs.YtilgjfckgkkfmaaDoor.Pure
open Go.RowKit Go.Eng Go.Proofs.YtilgjfckgkkfmaaDoor.Hx
theorem u8w {x : Int} (h : (Lit.int .u8 x).wf = true) : byt x := by
  have : 0 ≤ x ∧ x ≤ 255 := by simpa [Lit.wf, IntKind.min, IntKind.max, IntKind.bits, IntKind.signed] using h
  unfold byt; omega
theorem u16w {x : Int} (h : (Lit.int .u16 x).wf = true) : 0 ≤ x ∧ x < 65536 := by
  have : 0 ≤ x ∧ x ≤ 65535 := by simpa [Lit.wf, IntKind.min, IntKind.max, IntKind.bits, IntKind.signed] using h
  omega
theorem up : charabanclaw33_awake_10.f 1000 = some true := by kernel_rfl
theorem same33 (k a : Int) (d : List Int) : charabancref33_Same_16.f 1000 k a d k a d = some true := by
  unfold charabancref33_Same_16.f
  simp
theorem HexfileLines (a0 : Int × Int × List Int) (a1 : ByteArray) (w0 : ((Lit.int .u8 a0.1).wf = true ∧ ((Lit.int .u16 a0.2.1).wf = true ∧ (a0.2.2.length * 1 ≤ 140737488351232 ∧ ∀ x ∈ a0.2.2, (Lit.int .u8 x).wf = true)))) (w1 : a1.size ≤ 140737488351232) : ∃ K, charabanclaw33_HexfileLines_3.f K a0.1 a0.2.1 a0.2.2 a1 = some true := by
  obtain ⟨k, a, d⟩ := a0
  obtain ⟨hk, ha, _, hd⟩ := w0
  have hk := u8w hk
  have ha := u16w ha
  have hd := fun x hx => u8w (hd x hx)
  refine ⟨1000, ?_⟩
  show charabanclaw33_HexfileLines_3.f 1000 k a d a1 = some true
  unfold charabanclaw33_HexfileLines_3.f
  rw [up, Option.bind_some]
  simp only [Let, Bool.not_true, cond_f]
  by_cases h1 : (d.length : Int) > 400
  · rw [decide_eq_true h1, cond_t, cond_t]
  · rw [decide_eq_false h1, cond_f]
    by_cases h2 : (a1.size : Int) > 700
    · rw [decide_eq_true h2, cond_t]
    · have hl : d.length ≤ 400 := by omega
      rw [decide_eq_false h2, cond_f, goLine hl hk ha hd, Option.bind_some]
      simp only [charabanclaw33_plain_13.f, Option.bind_some]
      rw [refLine hl hk ha hd, Option.bind_some, goParse (by omega), Option.bind_some, refParse (by omega), Option.bind_some, goSum hl ha, refSum hl hk ha hd]
      simp only [beq_self_eq_true, cond_t, same33, Option.bind_some]
end Go.Proofs.YtilgjfckgkkfmaaDoor.Pure
