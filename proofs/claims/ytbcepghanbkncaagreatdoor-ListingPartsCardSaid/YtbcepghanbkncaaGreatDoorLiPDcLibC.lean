/- The instruction that bytes begin with: the program's telling, and the document's. -/
import Derived.Test.YtbcepghanbkncaaGreatDoorLiPDcLibB
set_option linter.unusedVariables false
set_option linter.unusedSimpArgs false
set_option maxHeartbeats 4000000
namespace Go.Proofs.YtbcepghanbkncaaGreatDoor.LiP.Dc
open Go.RowKit Go.Eng
theorem dec_next (b : List Int) (hb : By b) (hl : b.length ≤ 900) : decode_Next_77.f 1000 b = some (Nx b) := by
  have hcn := cnt_le b
  have hr : By (restP b) := by rw [rest_eq]; exact hb.drop _
  have h0 := hr.head
  have h1 := hr.tail.head
  have h2 := hr.tail.tail.head
  have hL := last_in b 0
  unfold decode_Next_77.f
  rw [dec_l0 b b 1000 0 0 0 (by omega) (by omega) (by omega) (by omega) (by omega)]
  simp only [read1, read2, read3]
  simp only [Let, Option.bind_some]
  unfold Nx
  simp (disch := omega) only [wrap_add, (nr_at h0).1, Option.bind_some, Int.zero_add]
  have hn : cntP b ≤ 900 := by omega
  clear hcn hl hb
  generalize restP b = r at *
  generalize lastP 0 b = L at *
  generalize cntP b = n at *
  by_cases c1 : r.headD 0 = 237
  · rw [if_pos c1, cond_of (by simpa using c1)]
    rcases hL with ⟨rfl, h3⟩ | ⟨h3, rfl | rfl⟩
    · simp only [bne_self_eq_false, cond_f, if_true, show ((0 : Int) == 253) = false from rfl]
      exact dec_tail h1 hr.tail.tail (by omega)
    · simp only [show ((221 : Int) != 0) = true from rfl, show ((221 : Int) == 253) = false from rfl, cond_t, cond_f]
      rw [if_neg (by decide)]
      exact dec_tail h1 hr.tail.tail (by omega)
    · simp only [show ((253 : Int) != 0) = true from rfl, show ((253 : Int) == 253) = true from rfl, bne_self_eq_false, cond_t, cond_f]
      rw [if_neg (by decide)]
      exact dec_tail h1 hr.tail.tail (by omega)
  rw [if_neg c1, cond_no (by simpa using c1)]
  by_cases c2 : r.headD 0 = 203
  · rw [if_pos c2, cond_of (by simpa using c2)]
    rcases hL with ⟨rfl, h3⟩ | ⟨h3, rfl | rfl⟩
    · simp only [bne_self_eq_false, cond_f, cond_t, if_true, show ((0 : Int) == 253) = false from rfl, c2, beq_self_eq_true]
      exact dec_tail h1 hr.tail.tail (by omega)
    · simp only [show ((221 : Int) != 0) = true from rfl, show ((221 : Int) == 253) = false from rfl, cond_t, cond_f, c2]
      rw [if_neg (by decide), if_neg (by decide)]
      exact dec_tail h2 hr.tail.tail.tail (by omega)
    · simp only [show ((253 : Int) != 0) = true from rfl, show ((253 : Int) == 253) = true from rfl, show ((5 : Int) != 2) = true from rfl, cond_t, cond_f, c2]
      rw [if_neg (by decide)]
      simp only [if_true]
      exact dec_tail h2 hr.tail.tail.tail (by omega)
  rw [if_neg c2, cond_no (by simpa using c2)]
  rcases hL with ⟨rfl, h3⟩ | ⟨h3, rfl | rfl⟩
  · simp only [bne_self_eq_false, cond_f, cond_t, if_true, show ((0 : Int) == 253) = false from rfl, show (r.headD 0 == 203) = false by simpa using c2]
    exact dec_tail h0 hr.tail (by omega)
  · simp only [show ((221 : Int) != 0) = true from rfl, show ((221 : Int) == 253) = false from rfl, cond_t, cond_f, show (r.headD 0 == 203) = false by simpa using c2]
    rw [if_neg (by decide)]
    cases hnr : nr 3 (r.headD 0) with
    | true => simp only [cond_t, if_true]; rw [if_neg (by decide)]; exact dec_tail h0 hr.tail.tail (by omega)
    | false => simp only [cond_f, if_false, Bool.false_eq_true]; rw [if_neg (by decide)]; exact dec_tail h0 hr.tail (by omega)
  · simp only [show ((253 : Int) != 0) = true from rfl, show ((253 : Int) == 253) = true from rfl, show ((3 : Int) != 2) = true from rfl, cond_t, cond_f, show (r.headD 0 == 203) = false by simpa using c2]
    rw [if_neg (by decide)]
    cases hnr : nr 3 (r.headD 0) with
    | true => simp only [cond_t, if_true]; exact dec_tail h0 hr.tail.tail (by omega)
    | false => simp only [cond_f, if_false, Bool.false_eq_true]; exact dec_tail h0 hr.tail (by omega)
theorem fl1 (r : List Int) : (!r.isEmpty) = decide (1 ≤ r.length) := by cases r <;> simp
theorem fl2 (r : List Int) : (!r.isEmpty && !r.tail.isEmpty) = decide (2 ≤ r.length) := by rcases r with _ | ⟨x, _ | ⟨y, r⟩⟩ <;> simp
theorem fl3 (r : List Int) : (!r.isEmpty && !r.tail.isEmpty && !r.tail.tail.isEmpty) = decide (3 ≤ r.length) := by rcases r with _ | ⟨x, _ | ⟨y, _ | ⟨z, r⟩⟩⟩ <;> simp
end Go.Proofs.YtbcepghanbkncaaGreatDoor.LiP.Dc
