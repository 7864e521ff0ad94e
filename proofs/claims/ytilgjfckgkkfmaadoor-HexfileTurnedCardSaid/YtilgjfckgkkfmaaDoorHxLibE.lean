/- A record's line is that record; a line with another digit is none. -/
import Derived.Test.YtilgjfckgkkfmaaDoorHxLibB
set_option linter.unusedVariables false
set_option linter.unusedSimpArgs false
namespace Go.Proofs.YtilgjfckgkkfmaaDoor.Hx
open Go.RowKit Go.Eng
theorem hxd_val {v : Int} (h : 0 ≤ v ∧ v < 16) : valI (hxd v) = v ∧ byt (hxd v) := by
  have key : ∀ v : Fin 16, valI (hxd (v.val : Int)) = (v.val : Int) ∧ (0 ≤ hxd (v.val : Int) ∧ hxd (v.val : Int) < 256) := by decide +kernel
  have := key ⟨v.toNat, by omega⟩
  simpa [byt, Int.toNat_of_nonneg h.1] using this
theorem hxd_ne {v w : Int} (h : 0 ≤ v ∧ v < 16) (h' : 0 ≤ w ∧ w < 16) (hn : v ≠ w) : hxd v ≠ hxd w := fun e => hn (by rw [← (hxd_val h).1, ← (hxd_val h').1, e])
theorem toB_inj {x y : Int} (hx : byt x) (hy : byt y) (h : toB x = toB y) : x = y := by
  unfold byt at hx hy
  unfold toB at h
  have := congrArg UInt8.toNat h
  rw [UInt8.toNat_ofNat', UInt8.toNat_ofNat'] at this
  omega
theorem toB_nat {x : Int} (hx : byt x) : ((toB x).toNat : Int) = x := by
  unfold byt at hx
  unfold toB
  rw [UInt8.toNat_ofNat']
  omega
theorem bytes_toB {l : List Int} (h : ∀ x ∈ l, byt x) : bytesI (ba (l.map toB)) = l := by
  rw [bytesI_ba, List.map_map]
  conv => rhs; rw [← List.map_id l]
  exact List.map_congr_left fun x hx => toB_nat (h x hx)
theorem strOf_toB (l : List Int) : strOf l = ba (l.map toB) := strOf_ba l
theorem twoI_byt {x : Int} (hx : byt x) : ∀ y ∈ twoI x, byt y := by
  unfold byt at hx
  intro y hy
  simp only [twoI, List.mem_cons, List.not_mem_nil, or_false] at hy
  rcases hy with rfl | rfl
  · exact (hxd_val (by omega)).2
  · exact (hxd_val (by omega)).2
theorem flat_byt {l : List Int} (h : ∀ x ∈ l, byt x) : ∀ y ∈ l.flatMap twoI, byt y := fun y hy => by
  obtain ⟨x, hx, hy⟩ := List.mem_flatMap.1 hy
  exact twoI_byt (h x hx) y hy
theorem prsI_flat : ∀ (l out : List Int), (∀ x ∈ l, byt x) → prsI (l.flatMap twoI) out = some (out ++ l)
  | [], out, _ => by simp [prsI]
  | x :: l, out, h => by
    have hx := h x List.mem_cons_self
    unfold byt at hx
    have v1 := (hxd_val (v := x / 16) (by omega)).1
    have v2 := (hxd_val (v := x % 16) (by omega)).1
    rw [List.flatMap_cons, twoI, List.cons_append, List.cons_append, List.nil_append, prsI, v1, v2, if_pos (by omega), prsI_flat l _ (fun y hy => h y (List.mem_cons_of_mem _ hy)), show 16 * (x / 16) + x % 16 = x by omega]
    simp
/-- Bytes in their places. -/
theorem parse_app {b0 b1 b2 b3 s : Int} {d : List Int} : parseB ([b0, b1, b2, b3] ++ d ++ [s]) = if (d.length : Int) ≠ b0 then noR else if sumI b3 (256 * b1 + b2) d ≠ s then (0, 0, [], 331) else (b3, 256 * b1 + b2, d, 0) := by
  have hl : ([b0, b1, b2, b3] ++ d ++ [s]).length = d.length + 5 := by simp
  have e0 : rdD ([b0, b1, b2, b3] ++ d ++ [s]) 0 = b0 := rfl
  have e1 : rdD ([b0, b1, b2, b3] ++ d ++ [s]) 1 = b1 := rfl
  have e2 : rdD ([b0, b1, b2, b3] ++ d ++ [s]) 2 = b2 := rfl
  have e3 : rdD ([b0, b1, b2, b3] ++ d ++ [s]) 3 = b3 := rfl
  have e4 : rdD ([b0, b1, b2, b3] ++ d ++ [s]) ((d.length : Int) + 4) = s := by
    have : (d.length : Int) + 4 = (([b0, b1, b2, b3] ++ d).length : Nat) := by simp; omega
    rw [this]
    exact rdD_of (by simp)
  have e5 : cutL ([b0, b1, b2, b3] ++ d ++ [s]) 4 ((d.length : Int) + 4) = d := by
    unfold cutL
    rw [show ((d.length : Int) + 4).toNat = ([b0, b1, b2, b3] ++ d).length by simp; omega, List.take_left]
    rfl
  unfold parseB
  rw [hl, show ((d.length + 5 : Nat) : Int) - 1 = (d.length : Int) + 4 by omega, e0, e1, e2, e3, e4, e5]
  by_cases h : (d.length : Int) = b0
  · rw [if_neg (by omega), if_neg (c := (d.length : Int) ≠ b0) (by omega)]
  · rw [if_pos (by omega), if_pos h]
theorem lineI_byt {k a : Int} {d : List Int} (hk : byt k) (ha : 0 ≤ a ∧ a < 65536) (hd : ∀ x ∈ d, byt x) : ∀ x ∈ lineI k a d, byt x := by
  intro x hx
  rcases List.mem_cons.1 hx with rfl | hx
  · unfold byt; omega
  · refine flat_byt (fun y hy => ?_) x hx
    rcases List.mem_append.1 hy with hy | hy
    · exact rawI_byt hk ha hd y hy
    · obtain rfl := List.mem_singleton.1 hy
      exact sumI_byt k a d
theorem all_byt {k a : Int} {d : List Int} (hk : byt k) (ha : 0 ≤ a ∧ a < 65536) (hd : ∀ x ∈ d, byt x) : ∀ x ∈ rawI k a d ++ [sumI k a d], byt x := by
  intro y hy
  rcases List.mem_append.1 hy with hy | hy
  · exact rawI_byt hk ha hd y hy
  · obtain rfl := List.mem_singleton.1 hy
    exact sumI_byt k a d
theorem parseI_cons (r : List Int) : parseI (58 :: r) = (match prsI r [] with | some b => parseB b | none => noR) := by
  unfold parseI
  rw [if_pos (show (58 :: r).head? = some 58 from rfl), List.tail_cons]
  rfl
theorem parse_line {k a : Int} {d : List Int} (hk : byt k) (ha : 0 ≤ a ∧ a < 65536) (hd : ∀ x ∈ d, byt x) (hl : d.length ≤ 255) : parseI (lineI k a d) = (k, a, d, 0) := by
  have hb := all_byt hk ha hd
  unfold lineI
  rw [parseI_cons, prsI_flat _ [] hb]
  show parseB (rawI k a d ++ [sumI k a d]) = _
  rw [rawI, parse_app, if_neg (by omega), show 256 * (a / 256) + a % 256 = a by omega, if_neg (by simp)]
/-- One digit is another one: one byte is another one. -/
theorem flat_set : ∀ (l : List Int) (p : Nat) (v : Int), (∀ x ∈ l, byt x) → p < 2 * l.length → 0 ≤ v ∧ v < 16 → (l.flatMap twoI)[p]? ≠ some (hxd v) → ∃ j y, j < l.length ∧ byt y ∧ l[j]? ≠ some y ∧ (l.flatMap twoI).set p (hxd v) = (l.set j y).flatMap twoI
  | [], p, v, _, hp, _, _ => by simp at hp
  | x :: l, 0, v, h, _, hv, hn => by
    have hx := h x List.mem_cons_self
    unfold byt at hx
    have hne : v ≠ x / 16 := fun e => hn (by rw [e]; rfl)
    refine ⟨0, 16 * v + x % 16, by simp, by unfold byt; omega, by simp; omega, ?_⟩
    rw [List.set_cons_zero, List.flatMap_cons, List.flatMap_cons, twoI, twoI, show (16 * v + x % 16) / 16 = v by omega, show (16 * v + x % 16) % 16 = x % 16 by omega]
    rfl
  | x :: l, 1, v, h, _, hv, hn => by
    have hx := h x List.mem_cons_self
    unfold byt at hx
    have hne : v ≠ x % 16 := fun e => hn (by rw [e]; rfl)
    refine ⟨0, 16 * (x / 16) + v, by simp, by unfold byt; omega, by simp; omega, ?_⟩
    rw [List.set_cons_zero, List.flatMap_cons, List.flatMap_cons, twoI, twoI, show (16 * (x / 16) + v) / 16 = x / 16 by omega, show (16 * (x / 16) + v) % 16 = v by omega]
    rfl
  | x :: l, p + 2, v, h, hp, hv, hn => by
    obtain ⟨j, y, h1, h2, h3, h4⟩ := flat_set l p v (fun z hz => h z (List.mem_cons_of_mem _ hz)) (by simp at hp; omega) hv hn
    refine ⟨j + 1, y, by simpa using h1, h2, h3, ?_⟩
    rw [List.set_cons_succ, List.flatMap_cons, List.flatMap_cons, ← h4]
    rfl
theorem sum_set : ∀ (l : List Int) (j : Nat) (x y : Int), l[j]? = some x → (l.set j y).sum = l.sum - x + y
  | [], j, x, y, h => by simp at h
  | z :: l, 0, x, y, h => by
    simp only [List.getElem?_cons_zero, Option.some.injEq] at h
    subst h
    rw [List.set_cons_zero, List.sum_cons, List.sum_cons]; omega
  | z :: l, j + 1, x, y, h => by
    rw [List.getElem?_cons_succ] at h
    rw [List.set_cons_succ, List.sum_cons, List.sum_cons, sum_set l j x y h]; omega
/-- Bytes that make a record come to 0. -/
theorem parse_sum {b : List Int} (hb : ∀ x ∈ b, byt x) (h5 : 5 ≤ b.length) : (parseB b).2.2.2 = 330 ∨ (parseB b).2.2.2 = 331 ∨ b.sum % 256 = 0 := by
  match b, h5 with
  | b0 :: b1 :: b2 :: b3 :: m, h5 =>
    obtain ⟨d, s, rfl⟩ : ∃ d s, m = d ++ [s] := by
      refine ⟨m.dropLast, m.getLast (by rintro rfl; simp at h5), (List.dropLast_concat_getLast _).symm⟩
    have e : b0 :: b1 :: b2 :: b3 :: (d ++ [s]) = [b0, b1, b2, b3] ++ d ++ [s] := by simp
    have g1 := hb b1 (by simp)
    have g2 := hb b2 (by simp)
    unfold byt at g1 g2
    rw [e, parse_app]
    by_cases h0 : (d.length : Int) = b0
    · rw [if_neg (by omega)]
      by_cases hs : sumI b3 (256 * b1 + b2) d = s
      · right; right
        have g0 := hb b0 (by simp)
        unfold byt at g0
        unfold sumI rawI at hs
        simp only [List.cons_append, List.nil_append, List.sum_cons, List.sum_append, List.sum_nil] at hs ⊢
        omega
      · rw [if_pos hs]; right; left; rfl
    · rw [if_pos h0]; left; rfl
theorem all_sum (k a : Int) (d : List Int) : (rawI k a d ++ [sumI k a d]).sum % 256 = 0 := by
  rw [List.sum_append, sumI]
  simp only [List.sum_cons, List.sum_nil]
  omega
theorem parse_turned {k a : Int} {d : List Int} (hk : byt k) (ha : 0 ≤ a ∧ a < 65536) (hd : ∀ x ∈ d, byt x) {p : Nat} (hp : p + 1 < (lineI k a d).length) {v : Int} (hv : 0 ≤ v ∧ v < 16) (hn : (lineI k a d)[p + 1]? ≠ some (hxd v)) :
    (parseI ((lineI k a d).set (p + 1) (hxd v))).2.2.2 = 330 ∨ (parseI ((lineI k a d).set (p + 1) (hxd v))).2.2.2 = 331 := by
  have hb := all_byt hk ha hd
  have hl : (rawI k a d ++ [sumI k a d]).length = d.length + 5 := by rw [List.length_append, rawI_len]; rfl
  rw [lineI_len] at hp
  obtain ⟨j, y, h1, h2, h3, h4⟩ := flat_set _ p v hb (by rw [hl]; omega) hv hn
  unfold lineI
  rw [List.set_cons_succ, parseI_cons, h4]
  have hb' : ∀ x ∈ (rawI k a d ++ [sumI k a d]).set j y, byt x := fun x hx => (List.mem_or_eq_of_mem_set hx).elim (hb x) (fun e => e ▸ h2)
  rw [prsI_flat _ [] hb']
  show (parseB ((rawI k a d ++ [sumI k a d]).set j y)).2.2.2 = 330 ∨ _
  rcases parse_sum hb' (by rw [List.length_set, hl]; omega) with h | h | h
  · exact .inl h
  · exact .inr h
  · exfalso
    have hx : (rawI k a d ++ [sumI k a d])[j]? = some ((rawI k a d ++ [sumI k a d])[j]) := List.getElem?_eq_getElem h1
    rw [sum_set _ j _ y hx] at h
    have h6 := all_sum k a d
    have h7 := hb _ (List.getElem_mem h1)
    rw [hx] at h3
    have h8 : (rawI k a d ++ [sumI k a d])[j] ≠ y := fun e => h3 (by rw [e])
    generalize (rawI k a d ++ [sumI k a d])[j] = x at *
    unfold byt at h2 h7
    omega
end Go.Proofs.YtilgjfckgkkfmaaDoor.Hx
