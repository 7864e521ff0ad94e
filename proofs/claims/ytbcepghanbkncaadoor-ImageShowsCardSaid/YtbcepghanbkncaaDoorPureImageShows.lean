/- The plain law of ImageShows. -/
import Derived.Test.YtbcepghanbkncaaDoorImImageShows
import Derived.Test.YtbcepghanbkncaaDoorImLibF
set_option linter.unusedVariables false
namespace Go.Proofs.YtbcepghanbkncaaDoor.Pure
open Go.RowKit Go.Eng Go.Proofs.YtbcepghanbkncaaDoor.Im
theorem u8w {x : Int} (h : (Lit.int .u8 x).wf = true) : byt x := by
  have : 0 ≤ x ∧ x ≤ 255 := by simpa [Lit.wf, IntKind.min, IntKind.max, IntKind.bits, IntKind.signed] using h
  unfold byt; omega
theorem u16w {x : Int} (h : (Lit.int .u16 x).wf = true) : 0 ≤ x ∧ x < 65536 := by
  have : 0 ≤ x ∧ x ≤ 65535 := by simpa [Lit.wf, IntKind.min, IntKind.max, IntKind.bits, IntKind.signed] using h
  omega
theorem up : charabanclaw30_awake_6.f 2000 = some true := by kernel_rfl
theorem ImageShows (a0 : (List Int × Int × Int × (List (Int × Int))) × Int) (w0 : (((a0.1.1.length * 1 ≤ 140737488351232 ∧ ∀ x ∈ a0.1.1, (Lit.int .u8 x).wf = true) ∧ ((Lit.int .i64 a0.1.2.1).wf = true ∧ ((Lit.int .i64 a0.1.2.2.1).wf = true ∧ (a0.1.2.2.2.length * 16 ≤ 140737488351232 ∧ ∀ x ∈ a0.1.2.2.2, ((Lit.int .i64 x.1).wf = true ∧ (Lit.int .u8 x.2).wf = true))))) ∧ (Lit.int .u16 a0.2).wf = true)) : ∃ K, charabanclaw30_ImageShows_4.f K a0.1.1 a0.1.2.1 a0.1.2.2.1 a0.1.2.2.2 a0.2 = some true := by
  obtain ⟨⟨r, n, b, l⟩, pc⟩ := a0
  obtain ⟨⟨hr, _, _, hl⟩, hp⟩ := w0
  have hrb : ∀ x ∈ r, byt x := fun x hx => u8w (hr.2 x hx)
  have hlb : ∀ x ∈ l, byt x.2 := fun x hx => u8w (hl.2 x hx).2
  have hpc : 0 ≤ pc ∧ pc < 65536 := u16w hp
  refine ⟨2000, ?_⟩
  show charabanclaw30_ImageShows_4.f 2000 r n b l pc = some true
  unfold charabanclaw30_ImageShows_4.f charabanclaw30_few_15.f
  rw [up, Option.bind_some, Bool.not_true, cond_f]
  by_cases h1 : (r.length : Int) ≤ 200
  · rw [decide_eq_true h1, cond_t, Option.bind_some]
    by_cases h2 : (l.length : Int) ≤ 60
    · rw [decide_eq_true h2, Bool.not_true, cond_f, goShow (by omega) (by omega) hrb hlb hpc, Option.bind_some, plain_eq (by omega), Option.bind_some]
      dsimp only
      rw [refShow (by omega) (by omega) hrb hlb hpc, Option.bind_some, beq_self_eq_true, cond_t, chk (by omega), Option.bind_some, Option.bind_some]
      dsimp only
      rw [rchk (by omega), Option.bind_some, beq_self_eq_true]
    · rw [decide_eq_false h2, Bool.not_false, cond_t]
  · rw [decide_eq_false h1, cond_f, Option.bind_some, Bool.not_false, cond_t]
end Go.Proofs.YtbcepghanbkncaaDoor.Pure
