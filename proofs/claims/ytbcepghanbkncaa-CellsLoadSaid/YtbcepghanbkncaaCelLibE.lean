/- Cells: checks, and what is told of any bytes. -/
import Derived.Test.YtbcepghanbkncaaCelLibD
set_option linter.unusedVariables false
set_option linter.unusedSimpArgs false
namespace Go.Proofs.Ytbcepghanbkncaa.Cel
open Go.RowKit Go.Eng
theorem up14 : charabanclaw14_awake_7.f 1000 = some true := by kernel_rfl
theorem w8 {x : Int} (h : (Lit.int .u8 x).wf = true) : 0 ≤ x ∧ x < 256 := by
  have : 0 ≤ x ∧ x ≤ 255 := by simpa [Lit.wf, IntKind.min, IntKind.max, IntKind.bits, IntKind.signed] using h
  omega
theorem w16 {x : Int} (h : (Lit.int .u16 x).wf = true) : 0 ≤ x ∧ x < 65536 := by
  have : 0 ≤ x ∧ x ≤ 65535 := by simpa [Lit.wf, IntKind.min, IntKind.max, IntKind.bits, IntKind.signed] using h
  omega
theorem okC_of {l : List Cel} (h : ∀ x ∈ l, ((Lit.int .u16 x.1).wf = true ∧ (Lit.int .u8 x.2).wf = true)) : okC l := fun p hp => w16 (h p hp).1
/-- Both checks go the same way. -/
theorem check_loop {l : List Cel} (hl : l.length < 900) (ho : okC l) : ∀ (m k i : Nat) (last : Int), i ≤ l.length → l.length - i = m → m < k → (last = if i = 0 then -1 else (rdD l ((i : Int) - 1)).1) →
    ∃ x, cells_Check_8.l0 1000 l k last (i : Int) = some x ∧ charabancref14_Check_9.l0 1000 l k (i : Int) = some x
  | m, 0, i, last, _, _, hk, _ => by omega
  | m, k + 1, i, last, h1, h2, hk, he => by
    rw [cells_Check_8.l0.eq_2, charabancref14_Check_9.l0.eq_2]
    by_cases hi : i < l.length
    · have hp := ho _ (List.getElem_mem hi)
      rw [← rdD_nat l hi] at hp
      rw [decide_eq_true (by omega), cond_t, cond_t, inR_nat hi, cond_t, cond_t, wrap_i64 (x := (rdD l (i : Int)).1) (by omega) (by omega), wrap_i64 (x := (i : Int) + 1) (by omega) (by omega)]
      have ih := check_loop hl ho (m - 1) k (i + 1) (rdD l (i : Int)).1 (by omega) (by omega) (by omega) (by rw [if_neg (by omega), show ((i + 1 : Nat) : Int) - 1 = (i : Int) by omega])
      simp only [Let]
      cases h0 : (rdD l (i : Int)).2 == 0 with
      | true => exact ⟨_, rfl, rfl⟩
      | false =>
        rw [cond_f, cond_f]
        by_cases hz : i = 0
        · rw [if_pos hz] at he
          rw [decide_eq_false (by omega), cond_f, decide_eq_false (by omega), cond_f, cond_f]
          exact ih
        · rw [if_neg hz] at he
          have hi1 : inR ((i : Int) - 1) l.length = true := by rw [show (i : Int) - 1 = ((i - 1 : Nat) : Int) by omega]; exact inR_nat (by omega)
          rw [decide_eq_true (show (i : Int) > 0 by omega), cond_t, wrap_i64 (by omega) (by omega), hi1, cond_t, he]
          cases hd : decide ((rdD l (i : Int)).1 ≤ (rdD l ((i : Int) - 1)).1) with
          | true => exact ⟨_, rfl, rfl⟩
          | false => exact ih
    · rw [decide_eq_false (by omega)]; exact ⟨_, rfl, rfl⟩
theorem checks {l : List Cel} (hl : l.length < 900) (ho : okC l) : ∃ x, cells_Check_8.f 1000 l = some x ∧ charabancref14_Check_9.f 1000 l = some x := by
  obtain ⟨x, h1, h2⟩ := check_loop hl ho _ 1000 0 (-1) (by omega) rfl (by omega) rfl
  rw [show ((0 : Nat) : Int) = 0 from rfl] at h1 h2
  unfold cells_Check_8.f charabancref14_Check_9.f
  rw [h1, h2]
  cases x with
  | ret => exact ⟨_, rfl, rfl⟩
  | go => exact ⟨_, rfl, rfl⟩
theorem check_up_loop {l : List Cel} (hl : l.length < 900) (ho : okC l) (hu : Upw l) (h0 : ∀ p ∈ l, p.2 ≠ 0) : ∀ (m k i : Nat) (last : Int), i ≤ l.length → l.length - i = m → m < k → (last = if i = 0 then -1 else (rdD l ((i : Int) - 1)).1) →
    cells_Check_8.l0 1000 l k last (i : Int) = some (Lp.go ())
  | m, 0, i, last, _, _, hk, _ => by omega
  | m, k + 1, i, last, h1, h2, hk, he => by
    rw [cells_Check_8.l0.eq_2]
    by_cases hi : i < l.length
    · have hp := ho _ (List.getElem_mem hi)
      have hn := h0 _ (List.getElem_mem hi)
      rw [← rdD_nat l hi] at hp hn
      rw [decide_eq_true (by omega), cond_t, inR_nat hi, cond_t, wrap_i64 (x := (rdD l (i : Int)).1) (by omega) (by omega), wrap_i64 (x := (i : Int) + 1) (by omega) (by omega)]
      have ih := check_up_loop hl ho hu h0 (m - 1) k (i + 1) (rdD l (i : Int)).1 (by omega) (by omega) (by omega) (by rw [if_neg (by omega), show ((i + 1 : Nat) : Int) - 1 = (i : Int) by omega])
      have hlt : last < (rdD l (i : Int)).1 := by
        by_cases hz : i = 0
        · rw [if_pos hz] at he; omega
        · rw [if_neg hz] at he
          rw [he, show (i : Int) - 1 = ((i - 1 : Nat) : Int) by omega, rdD_nat l (by omega), rdD_nat l hi]
          unfold Upw at hu
          rw [List.pairwise_iff_getElem] at hu
          exact hu (i - 1) i (by omega) hi (by omega)
      simp only [Let]
      rw [show ((rdD l (i : Int)).2 == 0) = false by simpa using hn, cond_f, decide_eq_false (by omega), cond_f]
      exact ih
    · rw [decide_eq_false (by omega)]; rfl
theorem check_up {l : List Cel} (hl : l.length < 900) (ho : okC l) (hu : Upw l) (h0 : ∀ p ∈ l, p.2 ≠ 0) : cells_Check_8.f 1000 l = some 0 := by
  have := check_up_loop hl ho hu h0 _ 1000 0 (-1) (by omega) rfl (by omega) rfl
  rw [show ((0 : Nat) : Int) = 0 from rfl] at this
  unfold cells_Check_8.f
  rw [this]; rfl
theorem check_mem {l : List Cel} (hl : l.length < 900) (ho : okC l) : cells_Check_8.f 1000 (memC l) = some 0 :=
  check_up (by have := memC_len l; omega) (fun p hp => ho p (memC_mem hp)) (memC_up l) (fun p hp => (memC_ne hp).1)
/-! ### What is loaded is read -/
theorem cells_keys {a c : Int} (ha : 0 ≤ a ∧ a < 65536) (hc : 0 ≤ c ∧ c < 65536) : ∀ (b : List Int), (∀ j : Nat, j < b.length → (a + j) % 65536 ≠ c) → ∀ p ∈ cellsFrom a b, p.1 ≠ c
  | [], _, p, hp => absurd hp (by simp [cellsFrom])
  | x :: xs, h, p, hp => by
    rcases List.mem_cons.1 hp with rfl | hp
    · have := h 0 (by simp); show a ≠ c; omega
    · refine cells_keys (a := IntKind.wrap .u16 (a + 1)) (w16_in _) hc xs (fun j hj => ?_) p hp
      have := h (j + 1) (by simp; omega)
      rw [IntKind.wrap_u16]; omega
theorem dump_loaded : ∀ (b : List Int) (l : List Cel) (a : Int), 0 ≤ a ∧ a < 65536 → b.length ≤ 60000 → dumpC (getC (l ++ cellsFrom a b)) a b.length = b
  | [], _, _, _, _ => rfl
  | x :: xs, l, a, ha, hb => by
    have ih := dump_loaded xs (l ++ [(a, x)]) (IntKind.wrap .u16 (a + 1)) (w16_in _) (by simp at hb; omega)
    show getC (l ++ ((a, x) :: cellsFrom (IntKind.wrap .u16 (a + 1)) xs)) a :: dumpC (getC (l ++ ((a, x) :: cellsFrom (IntKind.wrap .u16 (a + 1)) xs))) (IntKind.wrap .u16 (a + 1)) xs.length = x :: xs
    rw [show l ++ ((a, x) :: cellsFrom (IntKind.wrap .u16 (a + 1)) xs) = (l ++ [(a, x)]) ++ cellsFrom (IntKind.wrap .u16 (a + 1)) xs by simp, ih]
    congr 1
    rw [getC_app, getC_other _ _ _ (cells_keys (w16_in _) ha xs (fun j hj => by simp at hb; rw [IntKind.wrap_u16]; omega)), getC_snoc, if_pos rfl]
/-! ### Where two memories differ -/
def ones (l : List Cel) : List Cel := l.map (fun p => (p.1, 1))
def diffC (a b : List Cel) : List Cel := ((memC (ones a ++ ones b)).filter (fun p => getC a p.1 != getC b p.1)).map (fun p => (p.1, getC b p.1))
theorem ones_get (l : List Cel) (k : Int) : getC (ones l) k = if k ∈ l.map Prod.fst then 1 else 0 := by
  have key : ∀ (m : List Cel) (b : Int), (b = 0 ∨ b = 1) → (ones m).foldl (fun b p => if p.1 = k then p.2 else b) b = if k ∈ m.map Prod.fst then 1 else b := by
    intro m
    induction m with
    | nil => intro b _; simp [ones]
    | cons p m ih =>
      intro b hb
      show (ones m).foldl _ (if p.1 = k then 1 else b) = _
      rw [ih _ (by split <;> omega)]
      by_cases hk : p.1 = k
      · by_cases hm : k ∈ m.map Prod.fst
        · rw [if_pos hm, if_pos (by simp only [List.map_cons]; exact List.mem_cons_of_mem _ hm)]
        · rw [if_neg hm, if_pos hk, if_pos (by simp only [List.map_cons, hk]; exact List.mem_cons_self)]
      · have e : (k ∈ (p :: m).map Prod.fst) ↔ k ∈ m.map Prod.fst := by
          simp only [List.map_cons, List.mem_cons]
          exact ⟨fun h => h.elim (fun h => absurd h.symm hk) id, .inr⟩
        by_cases hm : k ∈ m.map Prod.fst
        · rw [if_pos hm, if_pos (e.2 hm)]
        · rw [if_neg hm, if_neg hk, if_neg (fun h => hm (e.1 h))]
  exact key l 0 (.inl rfl)
theorem ones_app (a b : List Cel) (k : Int) : getC (ones a ++ ones b) k = if k ∈ a.map Prod.fst ∨ k ∈ b.map Prod.fst then 1 else 0 := by
  rw [show ones a ++ ones b = ones (a ++ b) by simp [ones], ones_get]
  simp only [List.map_append, List.mem_append]
theorem get_key {l : List Cel} {k : Int} (h : getC l k ≠ 0) : k ∈ l.map Prod.fst := List.mem_map.2 ⟨_, getC_mem h, rfl⟩
theorem diffC_up (a b : List Cel) : Upw (diffC a b) := by
  unfold diffC Upw
  rw [List.pairwise_map]
  exact (memC_up _).sublist List.filter_sublist
theorem findK_map (g : Int → Int) : ∀ (m : List Cel) (k : Int), findK (m.map (fun p => (p.1, g p.1))) k = if k ∈ m.map Prod.fst then some (g k) else none
  | [], k => by simp [findK]
  | p :: m, k => by
    have ih := findK_map g m k
    rw [List.map_cons, List.map_cons]
    simp only [findK, List.mem_cons]
    by_cases hk : k = p.1
    · subst hk; simp
    · rw [show (k == p.1) = false by simpa using hk, cond_false, ih]
      by_cases hm : k ∈ m.map Prod.fst
      · rw [if_pos hm, if_pos (.inr hm)]
      · rw [if_neg hm, if_neg (fun h => h.elim hk hm)]
theorem diffC_find (a b : List Cel) (k : Int) : findK (diffC a b) k = if getC a k ≠ getC b k then some (getC b k) else none := by
  unfold diffC
  rw [findK_map]
  have e : (k ∈ ((memC (ones a ++ ones b)).filter (fun p => getC a p.1 != getC b p.1)).map Prod.fst) ↔ getC a k ≠ getC b k := by
    constructor
    · intro h
      obtain ⟨p, hp, rfl⟩ := List.mem_map.1 h
      simpa using (List.mem_filter.1 hp).2
    · intro h
      have hk : k ∈ a.map Prod.fst ∨ k ∈ b.map Prod.fst := by
        by_cases h1 : getC a k = 0
        · exact .inr (get_key (fun h2 => h (by rw [h1, h2])))
        · exact .inl (get_key h1)
      have hm := mem_memC (l := ones a ++ ones b) (a := k) (by rw [ones_app, if_pos hk]; decide)
      exact List.mem_map.2 ⟨_, List.mem_filter.2 ⟨hm, by simpa using h⟩, rfl⟩
  by_cases h : getC a k ≠ getC b k
  · rw [if_pos (e.2 h), if_pos h]
  · rw [if_neg (fun h2 => h (e.1 h2)), if_neg h]
theorem diffC_put (a b : List Cel) (k : Int) : getC (a ++ diffC a b) k = getC b k := by
  have hn := (diffC_up a b).nodup
  have key : ∀ (m : List Cel) (x : Int), (m.map Prod.fst).Nodup → m.foldl (fun b p => if p.1 = k then p.2 else b) x = (findK m k).getD x := by
    intro m
    induction m with
    | nil => intro x _; rfl
    | cons p m ih =>
      intro x h
      rw [List.map_cons, List.nodup_cons] at h
      rw [List.foldl_cons]
      simp only [findK]
      by_cases hk : p.1 = k
      · subst hk
        rw [if_pos rfl, show (p.1 == p.1) = true by simp, cond_true, getC_other m p.1 p.2 (fun q hq e => h.1 (List.mem_map.2 ⟨q, hq, e⟩))]; rfl
      · rw [if_neg hk, show (k == p.1) = false by simp; omega, cond_false]; exact ih x h.2
  rw [getC_app, key _ _ hn, diffC_find]
  by_cases h : getC a k = getC b k
  · rw [if_neg (fun h2 => h2 h), h]; rfl
  · rw [if_pos h]; rfl
theorem diffC_self (a : List Cel) : diffC a a = [] := by
  refine up_ext (diffC_up a a) .nil fun k => ?_
  rw [diffC_find, if_neg (fun h => h rfl)]; rfl
theorem diffC_len (a b : List Cel) : (diffC a b).length = (diffC b a).length := by
  unfold diffC
  rw [List.length_map, List.length_map, memC_congr (l := ones a ++ ones b) (l' := ones b ++ ones a) (fun k => by rw [ones_app, ones_app]; simp only [or_comm])]
  congr 2
  funext p
  rw [bne_comm]
theorem ones_ok {l : List Cel} (h : okC l) : okC (ones l) := fun p hp => by
  obtain ⟨q, hq, rfl⟩ := List.mem_map.1 hp
  exact h q hq
theorem goDiff {a b : List Cel} (ha : a.length < 400) (hb : b.length < 400) : cells_Diff_21.f 1000 a b = some (diffC a b) := by
  unfold cells_Diff_21.f
  have hL : ∀ l : List Cel, l.length < 400 → cells_Make_11.l0 1000 l 1000 [] 0 = some (ofL l) := by
    intro l hl
    have := of_loop (F := cells_Make_11.l0 1000 l) (l := l) (by omega) (fun k kvs i => by rw [cells_Make_11.l0.eq_2]; unfold putK; simp only [Let]; cases (rdD l i).2 == 0 <;> rfl) _ 1000 0 [] (by omega) rfl (by omega)
    rwa [show ((0 : Nat) : Int) = 0 from rfl, List.drop_zero] at this
  rw [hL a ha, hL b hb, Option.bind_some, Option.bind_some]
  have la := ofL_len a; have lb := ofL_len b
  have n1 : ((cells_Diff_21.d1 (ofL a) (ofL b)).map Prod.fst).Nodup := (List.filter_sublist.map _).nodup (ofL_nodup b)
  have e2 : (cells_Diff_21.d2 (ofL a) (ofL b)).map Prod.fst = ((ofL a).filter (fun p => !(findK (ofL b) p.1).isSome)).map Prod.fst := by unfold cells_Diff_21.d2; rw [List.map_map]; rfl
  have n2 : ((cells_Diff_21.d2 (ofL a) (ofL b)).map Prod.fst).Nodup := by rw [e2]; exact (List.filter_sublist.map _).nodup (ofL_nodup a)
  have hnd : ((cells_Diff_21.d1 (ofL a) (ofL b) ++ cells_Diff_21.d2 (ofL a) (ofL b)).map Prod.fst).Nodup := by
    rw [List.map_append]
    refine List.nodup_append.2 ⟨n1, n2, fun x hx y hy hxy => ?_⟩
    subst hxy
    obtain ⟨p, hp, rfl⟩ := List.mem_map.1 hx
    rw [e2] at hy
    obtain ⟨q, hq, hqp⟩ := List.mem_map.1 hy
    have h1 := findK_of_mem (ofL_nodup b) (List.mem_filter.1 hp).1
    have h2 := (List.mem_filter.1 hq).2
    rw [hqp, h1] at h2
    cases h2
  have l1 : (cells_Diff_21.d1 (ofL a) (ofL b)).length ≤ (ofL b).length := List.length_filter_le _ _
  have l2 : (cells_Diff_21.d2 (ofL a) (ofL b)).length ≤ (ofL a).length := by unfold cells_Diff_21.d2; rw [List.length_map]; exact List.length_filter_le _ _
  rw [mayBe_of (by omega) (by omega), Bool.true_and, show sortR Prod.fst (cells_Diff_21.d1 (ofL a) (ofL b) ++ cells_Diff_21.d2 (ofL a) (ofL b)) = true from ?_, cond_t]
  · congr 1
    have hu : Upw (sortB Prod.fst (cells_Diff_21.d1 (ofL a) (ofL b) ++ cells_Diff_21.d2 (ofL a) (ofL b))) := by
      have h1 := sortB_sorted Prod.fst (cells_Diff_21.d1 (ofL a) (ofL b) ++ cells_Diff_21.d2 (ofL a) (ofL b))
      have h2 := (((sortB_perm Prod.fst (cells_Diff_21.d1 (ofL a) (ofL b) ++ cells_Diff_21.d2 (ofL a) (ofL b))).map Prod.fst).nodup_iff).2 hnd
      unfold List.Nodup at h2
      rw [List.pairwise_map] at h2
      exact (h1.and h2).imp (fun ⟨a, b⟩ => by omega)
    refine up_ext hu (diffC_up a b) fun k => ?_
    rw [findK_perm (sortB_perm Prod.fst _) hnd, diffC_find]
    by_cases hk : getC a k = getC b k
    · rw [if_neg (fun h => h hk)]
      refine findK_none.2 fun p hp => ?_
      cases hb' : (k == p.1) with
      | false => rfl
      | true =>
        exfalso
        have := eq_of_beq hb'
        subst this
        rcases List.mem_append.1 hp with hp | hp
        · have h1 := findK_of_mem (ofL_nodup b) (List.mem_filter.1 hp).1
          have h2 := (List.mem_filter.1 hp).2
          rw [ofL_find, optC_getD, hk] at h2
          rw [ofL_find] at h1
          have h3 := optC_getD (getC b p.1)
          rw [h1] at h3
          simp at h3 h2
          omega
        · obtain ⟨q, hq, rfl⟩ := List.mem_map.1 hp
          have h1 := findK_of_mem (ofL_nodup a) (List.mem_filter.1 hq).1
          have h2 := (List.mem_filter.1 hq).2
          simp only [ofL_find] at h1 h2
          rw [← hk, h1] at h2
          cases h2
    · rw [if_pos hk]
      by_cases h0 : getC b k = 0
      · have ha0 : getC a k ≠ 0 := fun h => hk (by rw [h, h0])
        have hm : (k, getC a k) ∈ ofL a := findK_mem (by rw [ofL_find, optC, if_neg ha0])
        rw [h0]
        refine findK_of_mem hnd (List.mem_append_right _ (List.mem_map.2 ⟨(k, getC a k), List.mem_filter.2 ⟨hm, ?_⟩, rfl⟩))
        simp [ofL_find, optC, h0]
      · have hm : (k, getC b k) ∈ ofL b := findK_mem (by rw [ofL_find, optC, if_neg h0])
        refine findK_of_mem hnd (List.mem_append_left _ (List.mem_filter.2 ⟨hm, ?_⟩))
        rw [ofL_find, optC_getD]
        simpa using hk
  · rw [sortR, Bool.and_eq_true]
    refine ⟨distB_iff.2 hnd, ?_⟩
    simp only [Nat.blt_eq, List.length_append]
    omega
end Go.Proofs.Ytbcepghanbkncaa.Cel
