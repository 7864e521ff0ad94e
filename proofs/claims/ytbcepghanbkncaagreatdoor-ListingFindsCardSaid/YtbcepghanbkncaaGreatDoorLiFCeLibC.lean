/- Cells: what the program and the reference make of cells is the one row in order. -/
import Derived.Test.YtbcepghanbkncaaGreatDoorLiF5
import Derived.Test.YtbcepghanbkncaaGreatDoorEngCell
import Derived.Test.YtbcepghanbkncaaGreatDoorEngPure
set_option linter.unusedVariables false
set_option linter.unusedSimpArgs false
namespace Go.Proofs.YtbcepghanbkncaaGreatDoor.LiF.Ce
open Go.RowKit Go.Eng
theorem rd_drop {α : Type} [Inhabited α] {l : List α} {i : Nat} (h : i < l.length) : l.drop i = rdD l (i : Int) :: l.drop (i + 1) := by
  rw [rdD_nat l h, List.drop_eq_getElem_cons h]
theorem of_loop {F : Nat → List Cel → Int → Option (List Cel)} {l : List Cel} (hl : l.length < 900)
    (h : ∀ k kvs i, F (k + 1) kvs i = cond (decide (i < (l.length : Int))) (cond (inR i l.length) (F k (putK kvs (rdD l i)) (IntKind.wrap .i64 (i + 1))) none) (some kvs)) :
    ∀ (m k i : Nat) (kvs : List Cel), i ≤ l.length → l.length - i = m → m < k → F k kvs (i : Int) = some ((l.drop i).foldl putK kvs)
  | m, 0, i, kvs, _, _, hk => by omega
  | m, k + 1, i, kvs, h1, h2, hk => by
    rw [h]
    by_cases hi : i < l.length
    · rw [decide_eq_true (by omega), cond_t, inR_nat hi, cond_t, wrap_i64 (by omega) (by omega), rd_drop hi, List.foldl_cons]
      exact of_loop hl h (m - 1) k (i + 1) _ (by omega) (by omega) (by omega)
    · rw [decide_eq_false (by omega), cond_f, List.drop_eq_nil_of_le (by omega)]; rfl
theorem get_loop {l : List Cel} {a : Int} (hl : l.length < 900) : ∀ (m k i : Nat) (b : Int), i ≤ l.length → l.length - i = m → m < k → charabancref14_Get_47.l0 70000 l a k b (i : Int) = some ((l.drop i).foldl (fun b p => if p.1 = a then p.2 else b) b)
  | m, 0, i, b, _, _, hk => by omega
  | m, k + 1, i, b, h1, h2, hk => by
    rw [charabancref14_Get_47.l0.eq_2]
    by_cases hi : i < l.length
    · rw [decide_eq_true (by omega), cond_t, inR_nat hi, cond_t, wrap_i64 (by omega) (by omega), rd_drop hi, List.foldl_cons]
      by_cases ha : (rdD l (i : Int)).1 = a
      · rw [show ((rdD l (i : Int)).1 == a) = true by simpa using ha, cond_t, if_pos ha]
        exact get_loop hl (m - 1) k (i + 1) _ (by omega) (by omega) (by omega)
      · rw [show ((rdD l (i : Int)).1 == a) = false by simpa using ha, cond_f, if_neg ha]
        exact get_loop hl (m - 1) k (i + 1) _ (by omega) (by omega) (by omega)
    · rw [decide_eq_false (by omega), cond_f, List.drop_eq_nil_of_le (by omega)]; rfl
theorem refGet {l : List Cel} (hl : l.length < 900) (a : Int) : charabancref14_Get_47.f 70000 l a = some (getC l a) := by
  unfold charabancref14_Get_47.f
  have := get_loop (a := a) hl _ 70000 0 0 (by omega) rfl (by omega)
  rw [show ((0 : Nat) : Int) = 0 from rfl, List.drop_zero] at this
  rw [this]; rfl
/-- Cells as they come in. -/
def okC (l : List Cel) : Prop := ∀ p ∈ l, 0 ≤ p.1 ∧ p.1 < 65536
theorem best_loop {l : List Cel} (hl : l.length < 900) (ho : okC l) (out : List Cel) (last : Int) : ∀ (m k i : Nat) (b : Int), i ≤ l.length → l.length - i = m → m < k → charabancref14_Make_46.l0 70000 l out last k b (i : Int) = some (bestC l last (l.drop i) b)
  | m, 0, i, b, _, _, hk => by omega
  | m, k + 1, i, b, h1, h2, hk => by
    rw [charabancref14_Make_46.l0.eq_2]
    by_cases hi : i < l.length
    · have hp := ho _ (List.getElem_mem hi)
      rw [← rdD_nat l hi] at hp
      rw [decide_eq_true (by omega), cond_t, inR_nat hi, cond_t, wrap_i64 (x := (rdD l (i : Int)).1) (by omega) (by omega), wrap_i64 (x := (i : Int) + 1) (by omega) (by omega), rd_drop hi, refGet hl]
      have ih := fun b => best_loop hl ho out last (m - 1) k (i + 1) b (by omega) (by omega) (by omega)
      simp only [Let, Option.bind_some]
      show _ = some (bestC l last (l.drop (i + 1)) (if last < (rdD l (i : Int)).1 ∧ (rdD l (i : Int)).1 < b ∧ getC l (rdD l (i : Int)).1 ≠ 0 then (rdD l (i : Int)).1 else b))
      by_cases c1 : last < (rdD l (i : Int)).1
      · rw [decide_eq_true (show (rdD l (i : Int)).1 > last from c1), cond_t]
        by_cases c2 : (rdD l (i : Int)).1 < b
        · rw [decide_eq_true c2, cond_t]
          by_cases c3 : getC l (rdD l (i : Int)).1 = 0
          · rw [show (getC l (rdD l (i : Int)).1 != 0) = false by simpa using c3, cond_f, if_neg (fun h => h.2.2 c3)]; exact ih b
          · rw [show (getC l (rdD l (i : Int)).1 != 0) = true by simpa using c3, cond_t, if_pos ⟨c1, c2, c3⟩]; exact ih _
        · rw [decide_eq_false c2, cond_f, cond_f, if_neg (fun h => c2 h.2.1)]; exact ih b
      · rw [decide_eq_false (show ¬ (rdD l (i : Int)).1 > last from c1), cond_f, cond_f, if_neg (fun h => c1 h.1)]; exact ih b
    · rw [decide_eq_false (by omega), cond_f, List.drop_eq_nil_of_le (by omega)]; rfl
theorem make_loop {l : List Cel} (hl : l.length < 900) (ho : okC l) : ∀ (m k : Nat) (out rest : List Cel) (last : Int), memC l = out ++ rest → rest.length = m → m < k → (∀ p ∈ out, p.1 ≤ last) → (∀ p ∈ rest, last < p.1) →
    charabancref14_Make_46.l1 70000 l k out last = some (memC l)
  | m, 0, out, rest, last, _, _, hk, _, _ => by omega
  | m, k + 1, out, rest, last, he, hm, hk, h1, h2 => by
    rw [charabancref14_Make_46.l1.eq_2]
    have hb := best_loop hl ho out last _ 70000 0 65536 (by omega) rfl (by omega)
    rw [show ((0 : Nat) : Int) = 0 from rfl, List.drop_zero, best_next (fun p hp => (ho p hp).2) he h1 h2] at hb
    rw [hb, Option.bind_some]
    cases rest with
    | nil => rw [List.append_nil] at he; rw [he]; rfl
    | cons p rest =>
      have hp : p ∈ memC l := by rw [he]; exact List.mem_append_right _ List.mem_cons_self
      have hr := ho p (memC_mem hp)
      have hg := (memC_ne hp).2
      have hlen := memC_len l
      rw [he, List.length_append, List.length_cons] at hlen
      have hw : IntKind.wrap .u16 p.1 = p.1 := by rw [IntKind.wrap_u16]; omega
      show cond (p.1 == 65536) _ _ = _
      rw [show (p.1 == 65536) = false by simp; omega, cond_f]
      show ((charabancref14_Get_47.f 70000 l (IntKind.wrap .u16 p.1)).bind _) = _
      rw [hw, refGet hl, Option.bind_some, ← hg]
      show cond (mayBe (out.length + 1) 4) _ none = _
      rw [mayBe_of (by omega) (by omega), cond_t]
      have hup := memC_up l
      rw [he] at hup
      have hu2 := (List.pairwise_append.1 hup).2.1
      rw [show (IntKind.wrap .u16 (headC (p :: rest)), p.2) = p from by rw [show IntKind.wrap .u16 (headC (p :: rest)) = p.1 from hw]]
      refine make_loop hl ho (m - 1) k (out ++ [p]) rest p.1 (by rw [he]; simp) (by simp at hm; omega) (by simp at hm; omega) ?_ (fun q hq => (List.pairwise_cons.1 hu2).1 q hq)
      intro q hq
      rcases List.mem_append.1 hq with hq | hq
      · have := (List.pairwise_append.1 hup).2.2 q hq p List.mem_cons_self; omega
      · rw [List.mem_singleton.1 hq]; exact Int.le_refl _
theorem refMake {l : List Cel} (hl : l.length < 900) (ho : okC l) : charabancref14_Make_46.f 70000 l = some (memC l) := by
  unfold charabancref14_Make_46.f
  have hlen := memC_len l
  rw [make_loop hl ho _ 70000 [] (memC l) (-1) rfl rfl (by omega) (by simp) (fun p hp => by have := ho p (memC_mem hp); omega)]; rfl
end Go.Proofs.YtbcepghanbkncaaGreatDoor.LiF.Ce
