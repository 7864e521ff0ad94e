/- The engine's rows of the call's own that the library sorts, and what a sorted row is. -/
import Derived.Test.YtbcepghanbkncaaGreatDoorEngOrd
import Derived.Shelf.SlSortCmp.InsertionK
set_option linter.unusedVariables false
set_option linter.unusedSimpArgs false
set_option linter.unusedSectionVars false
namespace Go.Eng
open Go.RowKit
section
variable {α : Type}
end
section
open Go.Sort Go.Proofs
variable {α : Type} [Inhabited α] {d : Rp α} {E : TypeId} {w w' w0 : World} {M0 M : Nat → Prop} {H : List Chunk} {c : Nat}
theorem flat_get {enc : α → List Value} {k : Nat} (hk : ∀ x, (enc x).length = k) : ∀ (xs : List α) (j : Nat), j < xs.length * k → (xs.flatMap enc)[j]? = some ((enc xs[j / k]!)[j % k]!)
  | [], j, h => by simp at h
  | x :: xs, j, h => by
    have k0 : 0 < k := by
      rcases Nat.eq_zero_or_pos k with h0 | h0
      · subst h0; simp at h
      · exact h0
    rw [List.flatMap_cons]
    by_cases hj : j < k
    · rw [List.getElem?_append_left (by rw [hk]; exact hj), Nat.div_eq_of_lt hj, Nat.mod_eq_of_lt hj, List.getElem?_eq_getElem (by rw [hk]; exact hj)]
      simp [hk, hj]
    · have hle : k ≤ j := by omega
      have h2 : j - k < xs.length * k := by rw [List.length_cons, Nat.add_mul] at h; omega
      have e1 : j / k = (j - k) / k + 1 := by rw [Nat.div_eq_sub_div k0 hle]
      have e2 : j % k = (j - k) % k := Nat.mod_eq_sub_mod hle
      rw [List.getElem?_append_right (by rw [hk]; exact hle), hk, flat_get hk xs (j - k) h2, e1, e2]
      simp
theorem flatK_list {enc : α → List Value} {k : Nat} (hk : ∀ x, (enc x).length = k) (D : Array α) : (flatK enc k D).toList = D.toList.flatMap enc := by
  have hl : (D.toList.flatMap enc).length = D.size * k := by
    rw [← Array.length_toList]
    generalize D.toList = xs
    induction xs with
    | nil => simp
    | cons x xs ih => rw [List.flatMap_cons, List.length_append, ih, hk, List.length_cons, Nat.add_mul]; omega
  refine List.ext_getElem? fun j => ?_
  by_cases hj : j < D.size * k
  · rw [flat_get hk D.toList j (by simpa using hj)]
    have := get_flatK enc k D j hj
    rw [Array.getElem?_toList, Array.getElem?_eq_getElem (by rw [size_flatK]; exact hj)]
    rw [getElem!_pos _ j (by rw [size_flatK]; exact hj)] at this
    have hq : j / k < D.size := Nat.div_lt_of_lt_mul (by rw [Nat.mul_comm]; exact hj)
    rw [this, getElem!_pos D.toList (j / k) (by simpa using hq), getElem!_pos D (j / k) hq, Array.getElem_toList]
  · rw [List.getElem?_eq_none (by simpa using hj), List.getElem?_eq_none (by rw [hl]; omega)]
theorem cells_enc {enc : α → List Value} (hd : ∀ {w : World} {M : Nat → Prop} {x : α} {cs : List Value}, d.K w M x cs ↔ cs = enc x) : ∀ {xs : List α} {cs : List Value}, Cells d w M xs cs ↔ cs = xs.flatMap enc
  | [], cs => Iff.rfl
  | x :: xs, cs => by
    constructor
    · rintro ⟨c1, c2, rfl, h1, h2⟩
      rw [List.flatMap_cons, hd.1 h1, (cells_enc hd).1 h2]
    · rintro rfl
      exact ⟨_, _, List.flatMap_cons, hd.2 rfl, (cells_enc hd).2 rfl⟩
theorem Holds.sorted {enc : α → List Value} (hk : ∀ x, (enc x).length = d.sz) (hd : ∀ {w : World} {M : Nat → Prop} {x : α} {cs : List Value}, d.K w M x cs ↔ cs = enc x) {b cp : Nat} {xs : List α} (hH : Go.Eng.Holds M0 w0 w H) (hi : H[c]? = some (own d E (.slice (some ⟨b, 0, none⟩) xs.length cp) xs))
    (D : Array α) (hD : D.size = xs.length) (n : Nat) (os : Array Obj) : Go.Eng.Holds M0 w0 (sortWorldK enc d.sz w b 0 n D os) (H.set c (own d E (.slice (some ⟨b, 0, none⟩) D.toList.length cp) D.toList)) := by
  have hok := hH.get c hi
  obtain ⟨cells, ⟨hl, ho⟩, hc⟩ := hok
  rcases ho with ⟨h1, _⟩ | ⟨g, cap, cur, hv, _, hg, hnc, hcm, hcs, htk⟩
  · cases h1
  · simp only [Value.slice.injEq, Option.some.injEq, Addr.mk.injEq] at hv
    obtain ⟨⟨rfl, -⟩, -, rfl⟩ := hv
    have hbm : b ∈ (own d E (.slice (some ⟨b, 0, none⟩) xs.length cp) xs).mine := by simp [own, Value.ownBlock]
    have hmr := hH.mine b (List.mem_flatMap.2 ⟨_, List.mem_of_getElem? hi, hbm⟩)
    have hsz : (putRowK enc d.sz (Sort.ahead w n) b 0 D).heap.size = w.heap.size := by simp [putRowK, putRow, mapBlock, Sort.ahead]
    have hsz2 : w.heap.size ≤ (sortWorldK enc d.sz w b 0 n D os).heap.size := by
      show w.heap.size ≤ ((putRowK enc d.sz (Sort.ahead w n) b 0 D).heap ++ os).size
      rw [Array.size_append, hsz]; omega
    have hother : ∀ y, y < w.heap.size → y ≠ b → (sortWorldK enc d.sz w b 0 n D os).heap[y]? = w.heap[y]? := by
      intro y hy hne
      show ((putRowK enc d.sz (Sort.ahead w n) b 0 D).heap ++ os)[y]? = _
      rw [Array.getElem?_append_left (by rw [hsz]; exact hy)]
      simp only [putRowK, putRow, mapBlock, Sort.ahead, Array.getElem?_modify]
      rw [if_neg (fun h => hne h.symm)]
    have hself : (sortWorldK enc d.sz w b 0 n D os).heap[b]? = some (.cells (putCells id 0 (flatK enc d.sz D) cur) E (0, 0)) := by
      show ((putRowK enc d.sz (Sort.ahead w n) b 0 D).heap ++ os)[b]? = _
      rw [Array.getElem?_append_left (by rw [hsz]; exact hmr.2)]
      simp only [putRowK, putRow, mapBlock, Sort.ahead, Array.getElem?_modify, if_true, hg]
      rfl
    have h := hH.below
    refine hH.turn c hi ⟨?_, ?_, ?_, Nat.le_trans h.size hsz2, fun y hy => ?_⟩ hsz2 (fun y hy hne => hother y hy (fun e => hne (by rw [e]; exact hbm))) (fun y hy => .inl (by simpa [own, Value.ownBlock] using hy)) (by simp [own, Value.ownBlock]) (fun hM => ?_)
    · exact h.os
    · exact h.tape
    · exact h.output
    · rw [hother y (Nat.lt_of_lt_of_le hy h.size) (by omega)]; exact h.block y hy
    · have hfl : (flatK enc d.sz D).size = xs.length * d.sz := by rw [size_flatK, hD]
      have hDl : D.toList.length = xs.length := by rw [Array.length_toList, hD]
      refine ⟨D.toList.flatMap enc, ⟨?_, .inr ⟨b, cp, _, rfl, Nat.zero_le _, hself, by rw [hDl]; exact hnc, hcm, by simp [putCells, hcs], ?_⟩⟩, (cells_enc hd).2 rfl⟩
      · rw [← flatK_list hk, Array.length_toList, hfl, hDl]
      · rw [hDl, ← flatK_list hk]
        refine List.ext_getElem? fun j => ?_
        by_cases hj : j < xs.length * d.sz
        · have hjc : j < cur.size := by rw [hcs]; exact Nat.lt_of_lt_of_le hj (Nat.mul_le_mul_right _ hnc)
          rw [List.getElem?_take_of_lt hj, Array.getElem?_toList, Array.getElem?_toList]
          simp only [putCells, Array.getElem?_mapIdx, Array.getElem?_eq_getElem hjc, Option.map_some, Nat.zero_le, true_and, Nat.zero_add, hfl, hj, if_true, Nat.sub_zero, id]
          rw [getElem!_pos _ j (by rw [hfl]; exact hj), Array.getElem?_eq_getElem (by rw [hfl]; exact hj)]
        · rw [List.getElem?_eq_none (by rw [List.length_take]; omega), List.getElem?_eq_none (by rw [Array.length_toList, hfl]; omega)]
end
section
variable {P : Program} {F : Fun P} {k : List It} {e e' : Env} {w w' w0 : World} {R : Ending → World → Prop} {n i c : Nat} {M0 : Nat → Prop} {H : List Chunk} {K : Env → World → Prop}
end
section
open Go.Sort Go.Proofs
variable {α : Type} [Inhabited α] {d : Rp α} {E : TypeId} {w w' w0 : World} {M0 M : Nat → Prop} {H : List Chunk} {c : Nat} {P : Program}
end
end Go.Eng
