/- Plain laws on memories told by cells (an address, a byte): what a row of cells holds, and the one row in order that holds it. -/
import Derived.Test.YtbcepghanbkncaaGreatDoorEngSort
set_option linter.unusedVariables false
set_option linter.unusedSimpArgs false
namespace Go.Eng
abbrev Cel : Type := Int × Int
def getC (l : List Cel) (a : Int) : Int := l.foldl (fun b p => if p.1 = a then p.2 else b) 0
def optC (b : Int) : Option Int := if b = 0 then none else some b
theorem findK_upd : ∀ (kvs : List Cel) (x v y : Int), findK (updK kvs x v) y = if y = x then (if (findK kvs x).isSome then some v else none) else findK kvs y
  | [], x, v, y => by simp [updK, findK]
  | (k, u) :: r, x, v, y => by
    have ih := findK_upd r x v y
    unfold updK at ih ⊢
    rw [List.map_cons]
    by_cases hk : x = k
    · subst hk
      rw [show (x == x) = true by simp, cond_true]
      simp only [findK]
      by_cases hy : y = x
      · subst hy; simp
      · rw [show (y == x) = false by simpa using hy, cond_false, ih, if_neg hy, if_neg hy]; rfl
    · rw [show (x == k) = false by simpa using hk, cond_false]
      simp only [findK]
      by_cases hy : y = k
      · subst hy
        rw [show (y == y) = true by simp, cond_true, cond_true, if_neg (fun h => hk h.symm)]
      · have hk' : (x == k) = false := by simpa using hk
        have hy' : (y == k) = false := by simpa using hy
        simp only [hy', hk', cond_false, ih]
theorem findK_snoc : ∀ (kvs : List Cel) (x v y : Int), findK (kvs ++ [(x, v)]) y = (findK kvs y).or (if y = x then some v else none)
  | [], x, v, y => by
    by_cases hy : y = x
    · subst hy; simp [findK]
    · simp [findK, hy, show (y == x) = false by simpa using hy]
  | (k, u) :: r, x, v, y => by
    simp only [List.cons_append, findK]
    cases hb : (y == k) with
    | true => simp
    | false => simp only [cond_false]; exact findK_snoc r x v y
theorem findK_ins (kvs : List Cel) (x v y : Int) : findK (insK kvs x v) y = if y = x then some v else findK kvs y := by
  unfold insK
  cases hf : findK kvs x with
  | some u =>
    simp only [Option.isSome_some, cond_true, findK_upd, hf]
    by_cases hy : y = x
    · simp [hy]
    · simp [hy]
  | none =>
    simp only [Option.isSome_none, cond_false, findK_snoc]
    by_cases hy : y = x
    · subst hy; simp [hf]
    · simp [hy]
theorem findK_del : ∀ (kvs : List Cel) (x y : Int), findK (delK kvs x) y = if y = x then none else findK kvs y
  | [], x, y => by simp [delK, findK]
  | (k, u) :: r, x, y => by
    have ih := findK_del r x y
    unfold delK at ih ⊢
    rw [List.filter_cons]
    by_cases hk : x = k
    · subst hk
      simp only [beq_self_eq_true, Bool.not_true, Bool.false_eq_true, if_false, ih, findK]
      by_cases hy : y = x
      · simp [hy]
      · simp [hy, show (y == x) = false by simpa using hy]
    · rw [show (x == k) = false by simpa using hk]
      simp only [Bool.not_false, if_true, findK, ih]
      by_cases hy : y = k
      · subst hy
        simp [show ¬ y = x from fun h => hk h.symm]
      · simp [show (y == k) = false by simpa using hy]
def putK (kvs : List Cel) (p : Cel) : List Cel := cond (p.2 == 0) (delK kvs p.1) (insK kvs p.1 p.2)
def ofL (l : List Cel) : List Cel := l.foldl putK []
theorem putK_find (kvs : List Cel) (p : Cel) (a b : Int) (h : findK kvs a = optC b) : findK (putK kvs p) a = optC (if p.1 = a then p.2 else b) := by
  unfold putK
  by_cases h0 : p.2 = 0
  · rw [show (p.2 == 0) = true by simpa using h0, cond_true, findK_del]
    by_cases ha : a = p.1
    · rw [if_pos ha, if_pos ha.symm, h0]; rfl
    · rw [if_neg ha, if_neg (fun e => ha e.symm), h]
  · rw [show (p.2 == 0) = false by simpa using h0, cond_false, findK_ins]
    by_cases ha : a = p.1
    · rw [if_pos ha, if_pos ha.symm, optC, if_neg h0]
    · rw [if_neg ha, if_neg (fun e => ha e.symm), h]
theorem foldl_find : ∀ (l kvs : List Cel) (a b : Int), findK kvs a = optC b → findK (l.foldl putK kvs) a = optC (l.foldl (fun b p => if p.1 = a then p.2 else b) b)
  | [], _, _, _, h => h
  | p :: l, kvs, a, b, h => foldl_find l _ a _ (putK_find kvs p a b h)
theorem ofL_find (l : List Cel) (a : Int) : findK (ofL l) a = optC (getC l a) := foldl_find l [] a 0 rfl
def Upw (m : List Cel) : Prop := m.Pairwise (fun x y => x.1 < y.1)
theorem Upw.nodup {m : List Cel} (h : Upw m) : (m.map Prod.fst).Nodup := by
  unfold List.Nodup
  rw [List.pairwise_map]
  exact h.imp (fun h => by omega)
theorem optC_getD (b : Int) : (optC b).getD 0 = b := by unfold optC; split <;> simp_all
end Go.Eng
