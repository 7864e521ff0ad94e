/- The engine's rows of the call's own that the library sorts, and what a sorted row is. -/
import Derived.Test.YtbcepghanbkncaaGreatDoorEngOrd
import Derived.Shelf.SlSortCmp.InsertionK
set_option linter.unusedVariables false
set_option linter.unusedSimpArgs false
set_option linter.unusedSectionVars false
namespace Go.Eng
open Go.RowKit
section
variable {α : Type}
def insB (kf : α → Int) (x : α) : List α → List α
  | [] => [x]
  | y :: l => if kf x ≤ kf y then x :: y :: l else y :: insB kf x l
def sortB (kf : α → Int) (l : List α) : List α := l.foldr (insB kf) []
theorem insB_perm (kf : α → Int) (x : α) : ∀ l : List α, (insB kf x l).Perm (x :: l)
  | [] => .refl _
  | y :: l => by
    unfold insB
    split
    · exact .refl _
    · exact ((insB_perm kf x l).cons y).trans (.swap x y l)
theorem sortB_perm (kf : α → Int) : ∀ l : List α, (sortB kf l).Perm l
  | [] => .refl _
  | x :: l => (insB_perm kf x (sortB kf l)).trans ((sortB_perm kf l).cons x)
theorem insB_sorted (kf : α → Int) (x : α) : ∀ {l : List α}, l.Pairwise (fun a b => kf a ≤ kf b) → (insB kf x l).Pairwise (fun a b => kf a ≤ kf b)
  | [], _ => by simp [insB]
  | y :: l, h => by
    rw [List.pairwise_cons] at h
    unfold insB
    split
    · next hxy =>
      rw [List.pairwise_cons, List.pairwise_cons]
      refine ⟨fun z hz => ?_, h⟩
      rcases List.mem_cons.1 hz with rfl | hz
      · exact hxy
      · exact Int.le_trans hxy (h.1 z hz)
    · next hxy =>
      rw [List.pairwise_cons]
      refine ⟨fun z hz => ?_, insB_sorted kf x h.2⟩
      rcases List.mem_cons.1 ((insB_perm kf x l).mem_iff.1 hz) with rfl | hz
      · omega
      · exact h.1 z hz
theorem sortB_sorted (kf : α → Int) : ∀ l : List α, (sortB kf l).Pairwise (fun a b => kf a ≤ kf b)
  | [] => .nil
  | x :: l => insB_sorted kf x (sortB_sorted kf l)
theorem sorted_one (kf : α → Int) : ∀ {a b : List α}, a.Perm b → (b.map kf).Nodup → a.Pairwise (fun x y => kf x ≤ kf y) → b.Pairwise (fun x y => kf x ≤ kf y) → a = b
  | [], b, hp, _, _, _ => (hp.symm.eq_nil).symm
  | x :: a, [], hp, _, _, _ => absurd hp.eq_nil (by simp)
  | x :: a, y :: b, hp, hn, ha, hb => by
    rw [List.pairwise_cons] at ha hb
    have hxy : x = y := by
      have h1 : x ∈ y :: b := hp.mem_iff.1 List.mem_cons_self
      have h2 : y ∈ x :: a := hp.mem_iff.2 List.mem_cons_self
      rcases List.mem_cons.1 h1 with h | h
      · exact h
      · rcases List.mem_cons.1 h2 with h' | h'
        · exact h'.symm
        · have e : kf x = kf y := Int.le_antisymm (ha.1 y h') (hb.1 x h)
          rw [List.map_cons, List.nodup_cons] at hn
          exact absurd (List.mem_map.2 ⟨x, h, e⟩) hn.1
    subst hxy
    rw [List.map_cons, List.nodup_cons] at hn
    rw [sorted_one kf (hp.cons_inv) hn.2 ha.2 hb.2]
theorem sortB_of (kf : α → Int) {a b : List α} (hp : a.Perm b) (hn : (b.map kf).Nodup) (ha : a.Pairwise (fun x y => kf x ≤ kf y)) : a = sortB kf b := by
  have hq := hp.trans (sortB_perm kf b).symm
  refine sorted_one kf hq ?_ ha (sortB_sorted kf b)
  exact (((sortB_perm kf b).map kf).nodup_iff).2 hn
theorem sortB_perm_eq (kf : α → Int) {a b : List α} (hp : a.Perm b) (hn : (b.map kf).Nodup) : sortB kf a = sortB kf b :=
  sortB_of kf ((sortB_perm kf a).trans hp) hn (sortB_sorted kf a)
def distB : List Int → Bool
  | [] => true
  | x :: l => !(l.elem x) && distB l
theorem distB_iff : ∀ {l : List Int}, distB l = true ↔ l.Nodup
  | [] => by simp [distB]
  | x :: l => by
    rw [distB, Bool.and_eq_true, List.nodup_cons, distB_iff]
    simp
end
section
open Go.Sort Go.Proofs
variable {α : Type} [Inhabited α] {d : Rp α} {E : TypeId} {w w' w0 : World} {M0 M : Nat → Prop} {H : List Chunk} {c : Nat}
theorem flat_get {enc : α → List Value} {k : Nat} (hk : ∀ x, (enc x).length = k) : ∀ (xs : List α) (j : Nat), j < xs.length * k → (xs.flatMap enc)[j]? = some ((enc xs[j / k]!)[j % k]!)
  | [], j, h => by simp at h
  | x :: xs, j, h => by
    have k0 : 0 < k := by
      rcases Nat.eq_zero_or_pos k with h0 | h0
      · subst h0; simp at h
      · exact h0
    rw [List.flatMap_cons]
    by_cases hj : j < k
    · rw [List.getElem?_append_left (by rw [hk]; exact hj), Nat.div_eq_of_lt hj, Nat.mod_eq_of_lt hj, List.getElem?_eq_getElem (by rw [hk]; exact hj)]
      simp [hk, hj]
    · have hle : k ≤ j := by omega
      have h2 : j - k < xs.length * k := by rw [List.length_cons, Nat.add_mul] at h; omega
      have e1 : j / k = (j - k) / k + 1 := by rw [Nat.div_eq_sub_div k0 hle]
      have e2 : j % k = (j - k) % k := Nat.mod_eq_sub_mod hle
      rw [List.getElem?_append_right (by rw [hk]; exact hle), hk, flat_get hk xs (j - k) h2, e1, e2]
      simp
theorem flatK_list {enc : α → List Value} {k : Nat} (hk : ∀ x, (enc x).length = k) (D : Array α) : (flatK enc k D).toList = D.toList.flatMap enc := by
  have hl : (D.toList.flatMap enc).length = D.size * k := by
    rw [← Array.length_toList]
    generalize D.toList = xs
    induction xs with
    | nil => simp
    | cons x xs ih => rw [List.flatMap_cons, List.length_append, ih, hk, List.length_cons, Nat.add_mul]; omega
  refine List.ext_getElem? fun j => ?_
  by_cases hj : j < D.size * k
  · rw [flat_get hk D.toList j (by simpa using hj)]
    have := get_flatK enc k D j hj
    rw [Array.getElem?_toList, Array.getElem?_eq_getElem (by rw [size_flatK]; exact hj)]
    rw [getElem!_pos _ j (by rw [size_flatK]; exact hj)] at this
    have hq : j / k < D.size := Nat.div_lt_of_lt_mul (by rw [Nat.mul_comm]; exact hj)
    rw [this, getElem!_pos D.toList (j / k) (by simpa using hq), getElem!_pos D (j / k) hq, Array.getElem_toList]
  · rw [List.getElem?_eq_none (by simpa using hj), List.getElem?_eq_none (by rw [hl]; omega)]
theorem cells_enc {enc : α → List Value} (hd : ∀ {w : World} {M : Nat → Prop} {x : α} {cs : List Value}, d.K w M x cs ↔ cs = enc x) : ∀ {xs : List α} {cs : List Value}, Cells d w M xs cs ↔ cs = xs.flatMap enc
  | [], cs => Iff.rfl
  | x :: xs, cs => by
    constructor
    · rintro ⟨c1, c2, rfl, h1, h2⟩
      rw [List.flatMap_cons, hd.1 h1, (cells_enc hd).1 h2]
    · rintro rfl
      exact ⟨_, _, List.flatMap_cons, hd.2 rfl, (cells_enc hd).2 rfl⟩
theorem Holds.sorted {enc : α → List Value} (hk : ∀ x, (enc x).length = d.sz) (hd : ∀ {w : World} {M : Nat → Prop} {x : α} {cs : List Value}, d.K w M x cs ↔ cs = enc x) {b cp : Nat} {xs : List α} (hH : Go.Eng.Holds M0 w0 w H) (hi : H[c]? = some (own d E (.slice (some ⟨b, 0, none⟩) xs.length cp) xs))
    (D : Array α) (hD : D.size = xs.length) (n : Nat) (os : Array Obj) : Go.Eng.Holds M0 w0 (sortWorldK enc d.sz w b 0 n D os) (H.set c (own d E (.slice (some ⟨b, 0, none⟩) D.toList.length cp) D.toList)) := by
  have hok := hH.get c hi
  obtain ⟨cells, ⟨hl, ho⟩, hc⟩ := hok
  rcases ho with ⟨h1, _⟩ | ⟨g, cap, cur, hv, _, hg, hnc, hcm, hcs, htk⟩
  · cases h1
  · simp only [Value.slice.injEq, Option.some.injEq, Addr.mk.injEq] at hv
    obtain ⟨⟨rfl, -⟩, -, rfl⟩ := hv
    have hbm : b ∈ (own d E (.slice (some ⟨b, 0, none⟩) xs.length cp) xs).mine := by simp [own, Value.ownBlock]
    have hmr := hH.mine b (List.mem_flatMap.2 ⟨_, List.mem_of_getElem? hi, hbm⟩)
    have hsz : (putRowK enc d.sz (Sort.ahead w n) b 0 D).heap.size = w.heap.size := by simp [putRowK, putRow, mapBlock, Sort.ahead]
    have hsz2 : w.heap.size ≤ (sortWorldK enc d.sz w b 0 n D os).heap.size := by
      show w.heap.size ≤ ((putRowK enc d.sz (Sort.ahead w n) b 0 D).heap ++ os).size
      rw [Array.size_append, hsz]; omega
    have hother : ∀ y, y < w.heap.size → y ≠ b → (sortWorldK enc d.sz w b 0 n D os).heap[y]? = w.heap[y]? := by
      intro y hy hne
      show ((putRowK enc d.sz (Sort.ahead w n) b 0 D).heap ++ os)[y]? = _
      rw [Array.getElem?_append_left (by rw [hsz]; exact hy)]
      simp only [putRowK, putRow, mapBlock, Sort.ahead, Array.getElem?_modify]
      rw [if_neg (fun h => hne h.symm)]
    have hself : (sortWorldK enc d.sz w b 0 n D os).heap[b]? = some (.cells (putCells id 0 (flatK enc d.sz D) cur) E (0, 0)) := by
      show ((putRowK enc d.sz (Sort.ahead w n) b 0 D).heap ++ os)[b]? = _
      rw [Array.getElem?_append_left (by rw [hsz]; exact hmr.2)]
      simp only [putRowK, putRow, mapBlock, Sort.ahead, Array.getElem?_modify, if_true, hg]
      rfl
    have h := hH.below
    refine hH.turn c hi ⟨?_, ?_, ?_, Nat.le_trans h.size hsz2, fun y hy => ?_⟩ hsz2 (fun y hy hne => hother y hy (fun e => hne (by rw [e]; exact hbm))) (fun y hy => .inl (by simpa [own, Value.ownBlock] using hy)) (by simp [own, Value.ownBlock]) (fun hM => ?_)
    · exact h.os
    · exact h.tape
    · exact h.output
    · rw [hother y (Nat.lt_of_lt_of_le hy h.size) (by omega)]; exact h.block y hy
    · have hfl : (flatK enc d.sz D).size = xs.length * d.sz := by rw [size_flatK, hD]
      have hDl : D.toList.length = xs.length := by rw [Array.length_toList, hD]
      refine ⟨D.toList.flatMap enc, ⟨?_, .inr ⟨b, cp, _, rfl, Nat.zero_le _, hself, by rw [hDl]; exact hnc, hcm, by simp [putCells, hcs], ?_⟩⟩, (cells_enc hd).2 rfl⟩
      · rw [← flatK_list hk, Array.length_toList, hfl, hDl]
      · rw [hDl, ← flatK_list hk]
        refine List.ext_getElem? fun j => ?_
        by_cases hj : j < xs.length * d.sz
        · have hjc : j < cur.size := by rw [hcs]; exact Nat.lt_of_lt_of_le hj (Nat.mul_le_mul_right _ hnc)
          rw [List.getElem?_take_of_lt hj, Array.getElem?_toList, Array.getElem?_toList]
          simp only [putCells, Array.getElem?_mapIdx, Array.getElem?_eq_getElem hjc, Option.map_some, Nat.zero_le, true_and, Nat.zero_add, hfl, hj, if_true, Nat.sub_zero, id]
          rw [getElem!_pos _ j (by rw [hfl]; exact hj), Array.getElem?_eq_getElem (by rw [hfl]; exact hj)]
        · rw [List.getElem?_eq_none (by rw [List.length_take]; omega), List.getElem?_eq_none (by rw [Array.length_toList, hfl]; omega)]
end
section
variable {P : Program} {F : Fun P} {k : List It} {e e' : Env} {w w' w0 : World} {R : Ending → World → Prop} {n i c : Nat} {M0 : Nat → Prop} {H : List Chunk} {K : Env → World → Prop}
end
section
open Go.Sort Go.Proofs
variable {α : Type} [Inhabited α] {d : Rp α} {E : TypeId} {w w' w0 : World} {M0 M : Nat → Prop} {H : List Chunk} {c : Nat} {P : Program}
theorem sorted_pair {kf : α → Int} {D : Array α} (h : SortedIn (fun x y => decide (kf x < kf y)) 0 D.size D) : D.toList.Pairwise (fun x y => kf x ≤ kf y) := by
  rw [List.pairwise_iff_getElem]
  intro i j hi hj hij
  have := h i j (Nat.zero_le _) hij (by simpa using hj)
  simp only [decide_eq_false_iff_not] at this
  rw [getElem!_pos D i (by simpa using hi), getElem!_pos D j (by simpa using hj)] at this
  simp only [Array.getElem_toList]
  omega
end
section
variable {w w' w0 : World} {M0 : Nat → Prop} {H : List Chunk} {c D : Nat} {k : IntKind} {E : TypeId} {v v' : Value} {xs xs' : List Int}
def upTo (w : World) (D : Nat) : World := { w with heap := w.heap.extract 0 (D + 1) }
theorem upTo_size (w : World) (h : D < w.heap.size) : (upTo w D).heap.size = D + 1 := by simp [upTo]; omega
theorem upTo_get (w : World) {b : Nat} (h : b < D + 1) : (upTo w D).heap[b]? = w.heap[b]? := by simp [upTo, Array.getElem?_extract]; omega
theorem Holds.alone (hH : Holds M0 w0 w H) (hi : H[c]? = some (own (Rp.int k) E v xs)) (hd : D < w.heap.size) (hA : ∀ b, v.ownBlock = some b → D < b) : Holds (fun _ => False) (upTo w D) w [own (Rp.int k) E v xs] := by
  have hm : mines [own (Rp.int k) E v xs] = v.ownBlock.toList := by simp [mines, own]
  have hsub : ∀ b, b ∈ mines [own (Rp.int k) E v xs] → b ∈ mines H := fun b hb => List.mem_flatMap.2 ⟨_, List.mem_of_getElem? hi, by rwa [hm] at hb⟩
  refine ⟨⟨rfl, rfl, rfl, by rw [upTo_size w hd]; omega, fun b hb => ?_⟩, fun _ hf => hf.elim, fun x hx => ?_, fun b hb => ?_, ?_⟩
  · rw [upTo_size w hd] at hb; exact (upTo_get w hb).symm
  · rw [List.mem_singleton.1 hx]
    exact (own (Rp.int k) E v xs).keep (Nat.le_refl _) (fun _ _ _ => rfl) (fun b _ hb => hb.elim False.elim (fun hb => .inr (hsub b hb))) (hH.get c hi)
  · refine ⟨?_, (hH.mine b (hsub b hb)).2⟩
    rw [upTo_size w hd]
    rw [hm] at hb
    exact hA b (by simpa using hb)
  · rw [hm]; cases v.ownBlock <;> simp
theorem Holds.joined (hH : Holds M0 w0 w H) {j : Nat} (hj : H[j]? = some (dfr D)) (hA : ∀ b, v'.ownBlock = some b → D < b) (h : Holds (fun _ => False) (upTo w D) w' [own (Rp.int k) E v' xs']) : Holds M0 w0 w' [own (Rp.int k) E v' xs', dfr D] := by
  have hD := hH.mine D (List.mem_flatMap.2 ⟨_, List.mem_of_getElem? hj, List.mem_singleton.2 rfl⟩)
  have hB := h.below
  have hs := upTo_size w hD.2
  have hsz := hB.size
  rw [hs] at hsz
  have hm : mines [own (Rp.int k) E v' xs', dfr D] = v'.ownBlock.toList ++ [D] := by simp [mines, own, dfr]
  have hm1 : mines [own (Rp.int k) E v' xs'] = v'.ownBlock.toList := by simp [mines, own]
  refine ⟨⟨?_, ?_, ?_, by omega, fun b hb => ?_⟩, hH.old, fun x hx => ?_, fun b hb => ?_, ?_⟩
  · exact (hB.os).trans hH.below.os
  · exact (hB.tape).trans hH.below.tape
  · exact (hB.output).trans hH.below.output
  · rw [hB.block b (by rw [hs]; omega), upTo_get w (by omega)]; exact hH.below.block b hb
  · rcases List.mem_cons.1 hx with rfl | hx
    · obtain ⟨cells, ho, hc⟩ := h.get 0 rfl
      exact ⟨cells, ho, by rw [cells_ints hc]; exact cells_int _ _ _ _⟩
    · rw [List.mem_singleton.1 hx]
      show w'.heap[D]? = _
      rw [hB.block D (by rw [hs]; omega), upTo_get w (by omega)]
      exact hH.get j hj
  · rw [hm] at hb
    rcases List.mem_append.1 hb with hb | hb
    · have h1 := (h.mine b (by rw [hm1]; exact hb)).2
      have h2 := hA b (by simpa using hb)
      exact ⟨by omega, h1⟩
    · rw [List.mem_singleton.1 hb]; exact ⟨hD.1, by omega⟩
  · rw [hm]
    cases ho : v'.ownBlock with
    | none => simp
    | some g => have := hA g ho; simp; omega
end
end Go.Eng
