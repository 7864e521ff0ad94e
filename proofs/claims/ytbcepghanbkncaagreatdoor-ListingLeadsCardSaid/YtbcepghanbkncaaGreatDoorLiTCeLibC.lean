/- Cells: what the program and the reference make of cells is the one row in order. -/
import Derived.Test.YtbcepghanbkncaaGreatDoorLiT8
import Derived.Test.YtbcepghanbkncaaGreatDoorEngCell
import Derived.Test.YtbcepghanbkncaaGreatDoorEngPure
set_option linter.unusedVariables false
set_option linter.unusedSimpArgs false
namespace Go.Proofs.YtbcepghanbkncaaGreatDoor.LiT.Ce
open Go.RowKit Go.Eng
theorem rd_drop {α : Type} [Inhabited α] {l : List α} {i : Nat} (h : i < l.length) : l.drop i = rdD l (i : Int) :: l.drop (i + 1) := by
  rw [rdD_nat l h, List.drop_eq_getElem_cons h]
theorem of_loop {F : Nat → List Cel → Int → Option (List Cel)} {l : List Cel} (hl : l.length < 900)
    (h : ∀ k kvs i, F (k + 1) kvs i = cond (decide (i < (l.length : Int))) (cond (inR i l.length) (F k (putK kvs (rdD l i)) (IntKind.wrap .i64 (i + 1))) none) (some kvs)) :
    ∀ (m k i : Nat) (kvs : List Cel), i ≤ l.length → l.length - i = m → m < k → F k kvs (i : Int) = some ((l.drop i).foldl putK kvs)
  | m, 0, i, kvs, _, _, hk => by omega
  | m, k + 1, i, kvs, h1, h2, hk => by
    rw [h]
    by_cases hi : i < l.length
    · rw [decide_eq_true (by omega), cond_t, inR_nat hi, cond_t, wrap_i64 (by omega) (by omega), rd_drop hi, List.foldl_cons]
      exact of_loop hl h (m - 1) k (i + 1) _ (by omega) (by omega) (by omega)
    · rw [decide_eq_false (by omega), cond_f, List.drop_eq_nil_of_le (by omega)]; rfl
theorem get_loop {l : List Cel} {a : Int} (hl : l.length < 900) : ∀ (m k i : Nat) (b : Int), i ≤ l.length → l.length - i = m → m < k → charabancref14_Get_47.l0 1000 l a k b (i : Int) = some ((l.drop i).foldl (fun b p => if p.1 = a then p.2 else b) b)
  | m, 0, i, b, _, _, hk => by omega
  | m, k + 1, i, b, h1, h2, hk => by
    rw [charabancref14_Get_47.l0.eq_2]
    by_cases hi : i < l.length
    · rw [decide_eq_true (by omega), cond_t, inR_nat hi, cond_t, wrap_i64 (by omega) (by omega), rd_drop hi, List.foldl_cons]
      by_cases ha : (rdD l (i : Int)).1 = a
      · rw [show ((rdD l (i : Int)).1 == a) = true by simpa using ha, cond_t, if_pos ha]
        exact get_loop hl (m - 1) k (i + 1) _ (by omega) (by omega) (by omega)
      · rw [show ((rdD l (i : Int)).1 == a) = false by simpa using ha, cond_f, if_neg ha]
        exact get_loop hl (m - 1) k (i + 1) _ (by omega) (by omega) (by omega)
    · rw [decide_eq_false (by omega), cond_f, List.drop_eq_nil_of_le (by omega)]; rfl
theorem refGet {l : List Cel} (hl : l.length < 900) (a : Int) : charabancref14_Get_47.f 1000 l a = some (getC l a) := by
  unfold charabancref14_Get_47.f
  have := get_loop (a := a) hl _ 1000 0 0 (by omega) rfl (by omega)
  rw [show ((0 : Nat) : Int) = 0 from rfl, List.drop_zero] at this
  rw [this]; rfl
def okC (l : List Cel) : Prop := ∀ p ∈ l, 0 ≤ p.1 ∧ p.1 < 65536
end Go.Proofs.YtbcepghanbkncaaGreatDoor.LiT.Ce
