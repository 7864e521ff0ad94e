/- The plain law of ImageReads. -/
import Derived.Test.YtbcepghanbkncaaDoorImImageReads
import Derived.Test.YtbcepghanbkncaaDoorImLibE
import Derived.Test.YtbcepghanbkncaaDoorImLibF
set_option linter.unusedVariables false
namespace Go.Proofs.YtbcepghanbkncaaDoor.Pure
open Go.RowKit Go.Eng Go.Proofs.YtbcepghanbkncaaDoor.Im
theorem u8w {x : Int} (h : (Lit.int .u8 x).wf = true) : byt x := by
  have : 0 ≤ x ∧ x ≤ 255 := by simpa [Lit.wf, IntKind.min, IntKind.max, IntKind.bits, IntKind.signed] using h
  unfold byt; omega
theorem u16w {x : Int} (h : (Lit.int .u16 x).wf = true) : 0 ≤ x ∧ x < 65536 := by
  have : 0 ≤ x ∧ x ≤ 65535 := by simpa [Lit.wf, IntKind.min, IntKind.max, IntKind.bits, IntKind.signed] using h
  omega
theorem up : charabanclaw30_awake_6.f 2000 = some true := by kernel_rfl
theorem ImageReads (a0 : ByteArray) (a1 : List Int) (w0 : a0.size ≤ 140737488351232) (w1 : (a1.length * 1 ≤ 140737488351232 ∧ ∀ x ∈ a1, (Lit.int .u8 x).wf = true)) : ∃ K, charabanclaw30_ImageReads_3.f K a0 a1 = some true := by
  have hb : ∀ x ∈ a1, byt x := fun x hx => u8w (w1.2 x hx)
  refine ⟨2000, ?_⟩
  unfold charabanclaw30_ImageReads_3.f
  rw [up, Option.bind_some]
  simp only [Let, Bool.not_true, cond_f]
  obtain ⟨l, rfl⟩ : ∃ l, a0 = ba l := ⟨_, (ba_of a0).symm⟩
  rw [ba_size]
  by_cases h1 : (l.length : Int) > 1500
  · rw [decide_eq_true h1, cond_t, cond_t]
  · rw [decide_eq_false h1, cond_f]
    by_cases h2 : (a1.length : Int) > 100
    · rw [decide_eq_true h2, cond_t]
    · have hs : ((readS l).2.2.2.1).length ≤ 1900 := by
        have hln : lns (spl l) ≤ l.length := spl_sum l
        unfold readS
        cases hq : rdT (spl l) 0 ([], 1, 0, [], 0) with
        | ret x => simp [Lp.elim]
        | go c =>
          have hrl := rd_len _ _ _ _ hq
          simp only [List.length_nil, Nat.zero_add] at hrl
          simp only [Lp.elim]
          split
          · show c.2.2.2.1.length ≤ 1900; omega
          · simp
      rw [decide_eq_false h2, cond_f, goRead (by omega), Option.bind_some, refRead (by omega), Option.bind_some, goByt (by rw [ba_size]; omega), Option.bind_some, refByt (by rw [ba_size]; omega), Option.bind_some, plain_eq hs, Option.bind_some]
      dsimp only
      rw [same30 hs, Option.bind_some, cond_t, beq_self_eq_true, cond_t, beq_self_eq_true, cond_t, goDigits hb (by omega), Option.bind_some, refDigits hb (by omega), Option.bind_some, beq_self_eq_true, cond_t, beq_self_eq_true, cond_t, beq_self_eq_true]
end Go.Proofs.YtbcepghanbkncaaDoor.Pure
