/- Plain laws on memories told by cells (an address, a byte): what a row of cells holds, and the one row in order that holds it. -/
import Derived.Test.YtbcepghanbkncaaGreatDoorEngSort
set_option linter.unusedVariables false
set_option linter.unusedSimpArgs false
namespace Go.Eng
abbrev Cel : Type := Int × Int
/-- The byte at an address: the last cell's. -/
def getC (l : List Cel) (a : Int) : Int := l.foldl (fun b p => if p.1 = a then p.2 else b) 0
def optC (b : Int) : Option Int := if b = 0 then none else some b
theorem getC_other : ∀ (m : List Cel) (a b : Int), (∀ p ∈ m, p.1 ≠ a) → m.foldl (fun b p => if p.1 = a then p.2 else b) b = b
  | [], _, _, _ => rfl
  | p :: m, a, b, h => by
    rw [List.foldl_cons, if_neg (h p List.mem_cons_self)]
    exact getC_other m a b (fun q hq => h q (List.mem_cons_of_mem _ hq))
/-! ### Maps by their looks -/
theorem findK_upd : ∀ (kvs : List Cel) (x v y : Int), findK (updK kvs x v) y = if y = x then (if (findK kvs x).isSome then some v else none) else findK kvs y
  | [], x, v, y => by simp [updK, findK]
  | (k, u) :: r, x, v, y => by
    have ih := findK_upd r x v y
    unfold updK at ih ⊢
    rw [List.map_cons]
    by_cases hk : x = k
    · subst hk
      rw [show (x == x) = true by simp, cond_true]
      simp only [findK]
      by_cases hy : y = x
      · subst hy; simp
      · rw [show (y == x) = false by simpa using hy, cond_false, ih, if_neg hy, if_neg hy]; rfl
    · rw [show (x == k) = false by simpa using hk, cond_false]
      simp only [findK]
      by_cases hy : y = k
      · subst hy
        rw [show (y == y) = true by simp, cond_true, cond_true, if_neg (fun h => hk h.symm)]
      · have hk' : (x == k) = false := by simpa using hk
        have hy' : (y == k) = false := by simpa using hy
        simp only [hy', hk', cond_false, ih]
theorem findK_snoc : ∀ (kvs : List Cel) (x v y : Int), findK (kvs ++ [(x, v)]) y = (findK kvs y).or (if y = x then some v else none)
  | [], x, v, y => by
    by_cases hy : y = x
    · subst hy; simp [findK]
    · simp [findK, hy, show (y == x) = false by simpa using hy]
  | (k, u) :: r, x, v, y => by
    simp only [List.cons_append, findK]
    cases hb : (y == k) with
    | true => simp
    | false => simp only [cond_false]; exact findK_snoc r x v y
theorem findK_ins (kvs : List Cel) (x v y : Int) : findK (insK kvs x v) y = if y = x then some v else findK kvs y := by
  unfold insK
  cases hf : findK kvs x with
  | some u =>
    simp only [Option.isSome_some, cond_true, findK_upd, hf]
    by_cases hy : y = x
    · simp [hy]
    · simp [hy]
  | none =>
    simp only [Option.isSome_none, cond_false, findK_snoc]
    by_cases hy : y = x
    · subst hy; simp [hf]
    · simp [hy]
theorem findK_del : ∀ (kvs : List Cel) (x y : Int), findK (delK kvs x) y = if y = x then none else findK kvs y
  | [], x, y => by simp [delK, findK]
  | (k, u) :: r, x, y => by
    have ih := findK_del r x y
    unfold delK at ih ⊢
    rw [List.filter_cons]
    by_cases hk : x = k
    · subst hk
      simp only [beq_self_eq_true, Bool.not_true, Bool.false_eq_true, if_false, ih, findK]
      by_cases hy : y = x
      · simp [hy]
      · simp [hy, show (y == x) = false by simpa using hy]
    · rw [show (x == k) = false by simpa using hk]
      simp only [Bool.not_false, if_true, findK, ih]
      by_cases hy : y = k
      · subst hy
        simp [show ¬ y = x from fun h => hk h.symm]
      · simp [show (y == k) = false by simpa using hy]
/-! ### The map of a row of cells -/
def putK (kvs : List Cel) (p : Cel) : List Cel := cond (p.2 == 0) (delK kvs p.1) (insK kvs p.1 p.2)
def ofL (l : List Cel) : List Cel := l.foldl putK []
theorem putK_find (kvs : List Cel) (p : Cel) (a b : Int) (h : findK kvs a = optC b) : findK (putK kvs p) a = optC (if p.1 = a then p.2 else b) := by
  unfold putK
  by_cases h0 : p.2 = 0
  · rw [show (p.2 == 0) = true by simpa using h0, cond_true, findK_del]
    by_cases ha : a = p.1
    · rw [if_pos ha, if_pos ha.symm, h0]; rfl
    · rw [if_neg ha, if_neg (fun e => ha e.symm), h]
  · rw [show (p.2 == 0) = false by simpa using h0, cond_false, findK_ins]
    by_cases ha : a = p.1
    · rw [if_pos ha, if_pos ha.symm, optC, if_neg h0]
    · rw [if_neg ha, if_neg (fun e => ha e.symm), h]
theorem foldl_find : ∀ (l kvs : List Cel) (a b : Int), findK kvs a = optC b → findK (l.foldl putK kvs) a = optC (l.foldl (fun b p => if p.1 = a then p.2 else b) b)
  | [], _, _, _, h => h
  | p :: l, kvs, a, b, h => foldl_find l _ a _ (putK_find kvs p a b h)
theorem ofL_find (l : List Cel) (a : Int) : findK (ofL l) a = optC (getC l a) := foldl_find l [] a 0 rfl
theorem putK_nodup {kvs : List Cel} (h : (kvs.map Prod.fst).Nodup) (p : Cel) : ((putK kvs p).map Prod.fst).Nodup := by
  unfold putK
  cases p.2 == 0
  · exact insK_nodup h _ _
  · exact delK_nodup h _
theorem foldl_nodup : ∀ (l kvs : List Cel), (kvs.map Prod.fst).Nodup → ((l.foldl putK kvs).map Prod.fst).Nodup
  | [], _, h => h
  | p :: l, kvs, h => foldl_nodup l _ (putK_nodup h p)
theorem ofL_nodup (l : List Cel) : ((ofL l).map Prod.fst).Nodup := foldl_nodup l [] List.nodup_nil
theorem putK_len (kvs : List Cel) (p : Cel) : (putK kvs p).length ≤ kvs.length + 1 := by
  unfold putK
  cases p.2 == 0
  · unfold insK
    cases (findK kvs p.1).isSome
    · simp
    · simp [updK]
  · have := List.length_filter_le (fun q : Cel => !(p.1 == q.1)) kvs
    have e : delK kvs p.1 = kvs.filter (fun q : Cel => !(p.1 == q.1)) := rfl
    rw [cond_true, e]; omega
theorem foldl_len : ∀ (l kvs : List Cel), (l.foldl putK kvs).length ≤ kvs.length + l.length
  | [], kvs => by simp
  | p :: l, kvs => by
    have h1 := foldl_len l (putK kvs p)
    have h2 := putK_len kvs p
    rw [List.foldl_cons, List.length_cons]; omega
theorem ofL_len (l : List Cel) : (ofL l).length ≤ l.length := by have := foldl_len l []; simpa [ofL] using this
/-! ### The one row in order -/
def memC (l : List Cel) : List Cel := sortB Prod.fst (ofL l)
def Upw (m : List Cel) : Prop := m.Pairwise (fun x y => x.1 < y.1)
theorem Upw.nodup {m : List Cel} (h : Upw m) : (m.map Prod.fst).Nodup := by
  unfold List.Nodup
  rw [List.pairwise_map]
  exact h.imp (fun h => by omega)
theorem memC_up (l : List Cel) : Upw (memC l) := by
  have h1 := sortB_sorted Prod.fst (ofL l)
  have h2 : ((memC l).map Prod.fst).Nodup := (((sortB_perm Prod.fst (ofL l)).map Prod.fst).nodup_iff).2 (ofL_nodup l)
  unfold List.Nodup at h2
  rw [List.pairwise_map] at h2
  exact (h1.and h2).imp (fun ⟨a, b⟩ => by omega)
theorem memC_find (l : List Cel) (a : Int) : findK (memC l) a = optC (getC l a) := by
  rw [memC, findK_perm (sortB_perm Prod.fst (ofL l)) (ofL_nodup l), ofL_find]
theorem memC_len (l : List Cel) : (memC l).length ≤ l.length := by
  rw [memC, (sortB_perm Prod.fst (ofL l)).length_eq]; exact ofL_len l
theorem getC_find : ∀ {m : List Cel}, (m.map Prod.fst).Nodup → ∀ a, getC m a = (findK m a).getD 0
  | [], _, _ => rfl
  | p :: m, h, a => by
    rw [List.map_cons, List.nodup_cons] at h
    show m.foldl _ (if p.1 = a then p.2 else 0) = _
    simp only [findK]
    by_cases ha : p.1 = a
    · subst ha
      rw [if_pos rfl, show (p.1 == p.1) = true by simp, cond_true, getC_other m p.1 p.2 (fun q hq e => h.1 (List.mem_map.2 ⟨q, hq, e⟩))]; rfl
    · rw [if_neg ha, show (a == p.1) = false by simp; omega, cond_false]
      exact getC_find h.2 a
theorem optC_getD (b : Int) : (optC b).getD 0 = b := by unfold optC; split <;> simp_all
theorem memC_get (l : List Cel) (a : Int) : getC (memC l) a = getC l a := by
  rw [getC_find (memC_up l).nodup, memC_find, optC_getD]
theorem memC_ne {l : List Cel} {p : Cel} (h : p ∈ memC l) : p.2 ≠ 0 ∧ p.2 = getC l p.1 := by
  have h1 := findK_of_mem (memC_up l).nodup h
  rw [memC_find] at h1
  unfold optC at h1
  split at h1
  · cases h1
  · next h0 => have := Option.some.inj h1; omega
theorem mem_memC {l : List Cel} {a : Int} (h : getC l a ≠ 0) : (a, getC l a) ∈ memC l := by
  have h1 : findK (memC l) a = some (getC l a) := by rw [memC_find, optC, if_neg h]
  exact findK_mem h1
theorem getC_mem {l : List Cel} {a : Int} (h : getC l a ≠ 0) : (a, getC l a) ∈ l := by
  have key : ∀ (m : List Cel) (b : Int), (m.foldl (fun b p => if p.1 = a then p.2 else b) b = b) ∨ (a, m.foldl (fun b p => if p.1 = a then p.2 else b) b) ∈ m := by
    intro m
    induction m with
    | nil => intro b; exact .inl rfl
    | cons p m ih =>
      intro b
      rw [List.foldl_cons]
      rcases ih (if p.1 = a then p.2 else b) with h1 | h1
      · by_cases ha : p.1 = a
        · right
          rw [h1, if_pos ha, ← ha]
          exact List.mem_cons_self
        · left; rw [h1, if_neg ha]
      · exact .inr (List.mem_cons_of_mem _ h1)
  rcases key l 0 with h1 | h1
  · exact absurd h1 h
  · exact h1
theorem memC_mem {l : List Cel} {p : Cel} (h : p ∈ memC l) : p ∈ l := by
  have h1 := memC_ne h
  have h2 := getC_mem (l := l) (a := p.1) (by omega)
  rw [← h1.2] at h2
  exact h2
def qual (l : List Cel) (last : Int) (p : Cel) : Prop := last < p.1 ∧ getC l p.1 ≠ 0
def bestC (l : List Cel) (last : Int) (m : List Cel) (b : Int) : Int := m.foldl (fun b p => if last < p.1 ∧ p.1 < b ∧ getC l p.1 ≠ 0 then p.1 else b) b
theorem best_spec (l : List Cel) (last : Int) : ∀ (m : List Cel) (b : Int), bestC l last m b ≤ b ∧ (∀ q ∈ m, qual l last q → bestC l last m b ≤ q.1) ∧ (bestC l last m b = b ∨ ∃ q ∈ m, qual l last q ∧ bestC l last m b = q.1)
  | [], b => ⟨Int.le_refl _, fun q hq => absurd hq (by simp), .inl rfl⟩
  | p :: m, b => by
    have key := best_spec l last m (if last < p.1 ∧ p.1 < b ∧ getC l p.1 ≠ 0 then p.1 else b)
    have e : bestC l last (p :: m) b = bestC l last m (if last < p.1 ∧ p.1 < b ∧ getC l p.1 ≠ 0 then p.1 else b) := rfl
    rw [e]
    generalize bestC l last m (if last < p.1 ∧ p.1 < b ∧ getC l p.1 ≠ 0 then p.1 else b) = r at key
    obtain ⟨h1, h2, h3⟩ := key
    by_cases hc : last < p.1 ∧ p.1 < b ∧ getC l p.1 ≠ 0
    · rw [if_pos hc] at h1 h3
      refine ⟨by omega, fun q hq hl => ?_, ?_⟩
      · rcases List.mem_cons.1 hq with rfl | hq
        · exact h1
        · exact h2 q hq hl
      · rcases h3 with h3 | ⟨q, hq, hl, h3⟩
        · exact .inr ⟨p, List.mem_cons_self, ⟨hc.1, hc.2.2⟩, h3⟩
        · exact .inr ⟨q, List.mem_cons_of_mem _ hq, hl, h3⟩
    · rw [if_neg hc] at h1 h3
      refine ⟨h1, fun q hq hl => ?_, ?_⟩
      · rcases List.mem_cons.1 hq with rfl | hq
        · have : ¬ q.1 < b := fun h => hc ⟨hl.1, h, hl.2⟩
          omega
        · exact h2 q hq hl
      · rcases h3 with h3 | ⟨q, hq, hl, h3⟩
        · exact .inl h3
        · exact .inr ⟨q, List.mem_cons_of_mem _ hq, hl, h3⟩
def headC : List Cel → Int
  | [] => 65536
  | p :: _ => p.1
/-- What comes next in the one row in order. -/
theorem best_next {l : List Cel} (hr : ∀ p ∈ l, p.1 < 65536) {out rest : List Cel} (he : memC l = out ++ rest) {last : Int} (h1 : ∀ p ∈ out, p.1 ≤ last) (h2 : ∀ p ∈ rest, last < p.1) :
    bestC l last l 65536 = headC rest := by
  obtain ⟨b1, b2, b3⟩ := best_spec l last l 65536
  have inr : ∀ q, qual l last q → (q.1, getC l q.1) ∈ rest := by
    intro q hq
    have hm := mem_memC hq.2
    rw [he] at hm
    rcases List.mem_append.1 hm with hm | hm
    · have := h1 _ hm; have := hq.1; simp at *; omega
    · exact hm
  cases rest with
  | nil =>
    rcases b3 with b3 | ⟨q, hq, hl, b3⟩
    · exact b3
    · exact absurd (inr q hl) (by simp)
  | cons p rest =>
    have hp : p ∈ memC l := by rw [he]; exact List.mem_append_right _ List.mem_cons_self
    have hpl := memC_mem hp
    have hpn := memC_ne hp
    have hq : qual l last p := ⟨h2 p List.mem_cons_self, by rw [← hpn.2]; exact hpn.1⟩
    have hle := b2 p hpl hq
    rcases b3 with b3 | ⟨q, hq2, hl, b3⟩
    · have := hr p hpl; omega
    · have hm := inr q hl
      have hup := memC_up l
      rw [he] at hup
      have hup2 := (List.pairwise_append.1 hup).2.1
      rcases List.mem_cons.1 hm with hm | hm
      · have e : q.1 = p.1 := by rw [← hm]
        show bestC l last l 65536 = p.1
        omega
      · have := (List.pairwise_cons.1 hup2).1 _ hm
        simp at this
        omega
end Go.Eng
