/- The latch behind reads and writes. -/
import Derived.Test.YtngcadmhnbpgjaaDoorLatchLib
set_option linter.unusedVariables false
set_option linter.unusedSimpArgs false
namespace Go.Proofs.YtngcadmhnbpgjaaDoor.Latch
open Go.RowKit Go.Eng
abbrev St := Bool × Int × List Int
def stL (s : St) (n : Int) : St :=
  if n = 0 then (false, 0, s.2.2) else if n < 0 then s else if s.1 then (s.1, s.2.1, s.2.2 ++ [255]) else (true, n, s.2.2 ++ [0])
theorem stL_len (s : St) (n : Int) : (stL s n).2.2.length ≤ s.2.2.length + 1 := by
  unfold stL
  split
  · simp
  · split
    · simp
    · split <;> simp
theorem play_eq {K : Nat} {s : Bool} {b : Int} {l : List Int} (hl : l.length ≤ 1000) (hK : l.length < K) : latch_Play_11.f K s b l = some (l.foldl stL (s, b, [])) := by
  unfold latch_Play_11.f
  have := loop0 (fun k (x : St) t => latch_Play_11.l0 K s b l k x.1 x.2.1 x.2.2 t) l stL (fun x => some x) (fun i x => x.2.2.length ≤ i)
    (fun k x _ => by show latch_Play_11.l0 K s b l (k + 1) x.1 x.2.1 x.2.2 _ = _; rw [latch_Play_11.l0, cond_no (by simp)])
    (fun k x i hi hx => by
      have hsl := stL_len x l[i]
      refine ⟨?_, by omega⟩
      show latch_Play_11.l0 K s b l (k + 1) x.1 x.2.1 x.2.2 _ = _
      obtain ⟨a, c, o⟩ := x
      simp only at hx
      rw [latch_Play_11.l0, cond_of (by simp; omega), cond_of (inR_nat hi), wrap_nat (by omega), rdD_nat l hi]
      unfold latch_Latch_act_18.f stL
      have w0 : latch_Write_16.f K a c 0 = some (false, 0) := rfl
      have w1 : latch_Write_16.f K a c 1 = some (a, c) := rfl
      have m0 : mayBe (o.length + ([] : List Int).length) 1 = true := mayBe_of (by simp; omega) (by simp; omega)
      have m1 : ∀ y : Int, mayBe (o.length + [y].length) 1 = true := fun y => mayBe_of (by simp; omega) (by simp; omega)
      by_cases h0 : l[i] = 0
      · simp only [h0, beq_self_eq_true, cond_t, w0, Option.bind_some, m0, List.append_nil, if_true]
      · have h0' : (l[i] == 0) = false := by simpa using h0
        by_cases h1 : l[i] < 0
        · simp only [h0', h0, h1, decide_true, cond_t, cond_f, w1, Option.bind_some, m0, List.append_nil, if_true, if_false]
        · simp only [h0', h0, h1, decide_false, cond_f, if_false, latch_Read_14.f]
          cases a <;> simp only [cond_t, cond_f, Option.bind_some, m1, if_true, Bool.false_eq_true, if_false]) hK (s := (s, b, [])) (by simp)
  erw [this]
  rfl
theorem rplay_eq {K : Nat} {s : Bool} {b : Int} {l : List Int} (hl : l.length ≤ 1000) (hK : l.length < K) : charabancref20_Play_12.f K s b l = some (l.foldl stL (s, b, [])) := by
  unfold charabancref20_Play_12.f
  have := loop0 (fun k (x : St) t => charabancref20_Play_12.l0 K s b l k x.1 x.2.1 x.2.2 t) l stL (fun x => some x) (fun i x => x.2.2.length ≤ i)
    (fun k x _ => by show charabancref20_Play_12.l0 K s b l (k + 1) x.1 x.2.1 x.2.2 _ = _; rw [charabancref20_Play_12.l0, cond_no (by simp)])
    (fun k x i hi hx => by
      have hsl := stL_len x l[i]
      refine ⟨?_, by omega⟩
      show charabancref20_Play_12.l0 K s b l (k + 1) x.1 x.2.1 x.2.2 _ = _
      obtain ⟨a, c, o⟩ := x
      simp only at hx
      rw [charabancref20_Play_12.l0, cond_of (by simp; omega), cond_of (inR_nat hi), wrap_nat (by omega), rdD_nat l hi]
      unfold stL Let
      have w0 : ∀ a c, charabancref20_Write_17.f K a c 0 = some (false, 0) := fun a c => rfl
      have w1 : ∀ a c, charabancref20_Write_17.f K a c 1 = some (a, c) := fun a c => rfl
      have m1 : ∀ y : Int, mayBe (o.length + [y].length) 1 = true := fun y => mayBe_of (by simp; omega) (by simp; omega)
      by_cases h0 : l[i] = 0
      · simp only [h0, gt_iff_lt, Int.lt_irrefl, decide_false, cond_f, beq_self_eq_true, cond_t, w0, Option.bind_some, if_true]
      · have h0' : (l[i] == 0) = false := by simpa using h0
        by_cases h1 : l[i] < 0
        · simp only [h0', h0, h1, decide_eq_false (show ¬ l[i] > 0 by omega), decide_true, cond_t, cond_f, w1, Option.bind_some, if_true, if_false]
        · simp only [h0', h0, h1, decide_eq_true (show l[i] > 0 by omega), decide_false, cond_t, cond_f, if_false, charabancref20_Read_15.f]
          cases a <;> simp only [cond_t, cond_f, Option.bind_some, m1, if_true, Bool.false_eq_true, if_false]) hK (s := (s, b, [])) (by simp)
  erw [this]
  rfl
def evensOk : Bool := (List.range 256).all fun b => (band .u8 (b : Int) 1 == 0) == (Int.tmod (b : Int) 2 == 0)
theorem evens : evensOk = true := by kernel_rfl
theorem even_at {b : Int} (h : 0 ≤ b ∧ b ≤ 255) : (band .u8 b 1 == 0) = (Int.tmod b 2 == 0) := by
  have h1 := List.all_eq_true.1 evens b.toNat (List.mem_range.2 (by omega))
  rw [show ((b.toNat : Nat) : Int) = b by omega] at h1
  simpa using h1
end Go.Proofs.YtngcadmhnbpgjaaDoor.Latch
