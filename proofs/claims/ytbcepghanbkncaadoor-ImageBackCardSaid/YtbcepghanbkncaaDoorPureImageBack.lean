/- The plain law of ImageBack. -/
import Derived.Test.YtbcepghanbkncaaDoorImImageBack
import Derived.Test.YtbcepghanbkncaaDoorImLibG
set_option linter.unusedVariables false
namespace Go.Proofs.YtbcepghanbkncaaDoor.Pure
open Go.RowKit Go.Eng Go.Proofs.YtbcepghanbkncaaDoor.Im
theorem u8w {x : Int} (h : (Lit.int .u8 x).wf = true) : byt x := by
  have : 0 ≤ x ∧ x ≤ 255 := by simpa [Lit.wf, IntKind.min, IntKind.max, IntKind.bits, IntKind.signed] using h
  unfold byt; omega
theorem u16w {x : Int} (h : (Lit.int .u16 x).wf = true) : 0 ≤ x ∧ x < 65536 := by
  have : 0 ≤ x ∧ x ≤ 65535 := by simpa [Lit.wf, IntKind.min, IntKind.max, IntKind.bits, IntKind.signed] using h
  omega
theorem up : charabanclaw30_awake_6.f 2000 = some true := by kernel_rfl
theorem ImageBack (a0 : (List Int × Int × Int × (List (Int × Int))) × Int) (a1 : List Int) (w0 : (((a0.1.1.length * 1 ≤ 140737488351232 ∧ ∀ x ∈ a0.1.1, (Lit.int .u8 x).wf = true) ∧ ((Lit.int .i64 a0.1.2.1).wf = true ∧ ((Lit.int .i64 a0.1.2.2.1).wf = true ∧ (a0.1.2.2.2.length * 16 ≤ 140737488351232 ∧ ∀ x ∈ a0.1.2.2.2, ((Lit.int .i64 x.1).wf = true ∧ (Lit.int .u8 x.2).wf = true))))) ∧ (Lit.int .u16 a0.2).wf = true)) (w1 : (a1.length * 1 ≤ 140737488351232 ∧ ∀ x ∈ a1, (Lit.int .u8 x).wf = true)) : ∃ K, charabanclaw30_ImageBack_5.f K a0.1.1 a0.1.2.1 a0.1.2.2.1 a0.1.2.2.2 a0.2 a1 = some true := by
  obtain ⟨⟨r, n, b, l⟩, pc⟩ := a0
  obtain ⟨⟨hr, _, _, hl⟩, hp⟩ := w0
  have hrb : ∀ x ∈ r, byt x := fun x hx => u8w (hr.2 x hx)
  have hlb : ∀ x ∈ l, byt x.2 := fun x hx => u8w (hl.2 x hx).2
  have hpc : 0 ≤ pc ∧ pc < 65536 := u16w hp
  have ha : ∀ x ∈ a1, byt x := fun x hx => u8w (w1.2 x hx)
  refine ⟨2000, ?_⟩
  show charabanclaw30_ImageBack_5.f 2000 r n b l pc a1 = some true
  unfold charabanclaw30_ImageBack_5.f charabanclaw30_few_15.f
  simp only [Let]
  rw [up, Option.bind_some, Bool.not_true, cond_f]
  by_cases h1 : (r.length : Int) ≤ 200
  · rw [decide_eq_true h1, cond_t, Option.bind_some]
    by_cases h2 : (l.length : Int) ≤ 60
    · rw [decide_eq_true h2, Bool.not_true, cond_f]
      by_cases h3 : (a1.length : Int) > 200
      · rw [decide_eq_true h3, cond_t]
      · have hby : bytO (bytesI (ba (hexes a1))) = (a1, true) := by
          unfold bytO
          rw [show prsB (bytesI (ba (hexes a1))) = some a1 from prs_hexes a1 ha]
        rw [decide_eq_false h3, cond_f, goDigits ha (by omega), Option.bind_some, goByt (by rw [ba_size, hexes_len]; omega), Option.bind_some, hby]
        dsimp only
        rw [Bool.not_true, cond_f, beq_self_eq_true, Bool.not_true, cond_f, Option.bind_some, ba_size, hexes_len, wrap_i64 (x := 2 * (a1.length : Int)) (by omega) (by omega), show (((2 * a1.length : Nat) : Int) != 2 * (a1.length : Int)) = false by simp, cond_f, chk (by omega), Option.bind_some]
        by_cases hc : ckS r n b l = true
        · have hsh := goShow (n := n) (b := b) (by omega) (by omega) hrb hlb hpc
          rw [if_pos hc] at hsh
          rw [if_pos hc, show (((0 : Int)) != 0) = false from rfl, cond_f, hsh, Option.bind_some, goRead (show_len (by omega) (by omega)), show_read hrb hlb hpc hc, Option.bind_some]
          dsimp only
          rw [beq_self_eq_true, cond_t, cond_t, plain_eq (by omega), Option.bind_some, Option.bind_some]
          dsimp only
          rw [same30 (by omega), Option.bind_some]
        · have hsh := goShow (n := n) (b := b) (by omega) (by omega) hrb hlb hpc
          rw [if_neg hc] at hsh
          rw [if_neg hc, show (((140 : Int)) != 0) = true from rfl, cond_t, hsh, Option.bind_some, show (⟨#[]⟩ : ByteArray) = ba [] from rfl, beq_self_eq_true]
    · rw [decide_eq_false h2, Bool.not_false, cond_t, cond_t]
  · rw [decide_eq_false h1, cond_f, Option.bind_some, Bool.not_false, cond_t, cond_t]
end Go.Proofs.YtbcepghanbkncaaDoor.Pure
