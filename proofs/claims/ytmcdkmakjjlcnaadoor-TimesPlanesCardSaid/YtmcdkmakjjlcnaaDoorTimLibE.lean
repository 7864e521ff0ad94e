/- An instruction hangs on its own bytes alone. -/
import Derived.Test.YtmcdkmakjjlcnaaDoorTimLibD
set_option linter.unusedVariables false
set_option linter.unusedSimpArgs false
set_option maxHeartbeats 4000000
namespace Go.Proofs.YtmcdkmakjjlcnaaDoor.Tim
open Go.RowKit Go.Eng
def uO (L c : Int) : Nat := if c = 237 then 2 else if c = 203 then (if L = 0 then 2 else 3) else if L = 0 then 1 else if nr 3 c = true then 2 else 1
def pO (L c : Int) : Int := if c = 237 then 2 else if c = 203 then (if L = 0 then 1 else if L = 253 then 6 else 5) else if L = 0 then 0 else if L = 253 then 4 else 3
def cO (L c : Int) : Nat := if c = 237 then 1 else if c = 203 then (if L = 0 then 1 else 2) else 0
def dO (L c : Int) : Bool := if c = 237 then false else if c = 203 then !(L == 0) else if L = 0 then false else nr 3 c
def kO (n : Nat) (L c : Int) : Int := if c = 237 then (if L = 0 then max 0 ((n : Int) - 1) else max 0 ((n : Int) - 1) + 1) else max 0 ((n : Int) - 1)
/-- An instruction behind n prefixes, the last of them L. -/
def Bd (n : Nat) (L : Int) (r : List Int) : Res :=
  fin (pO L (r.headD 0)) (r.getD (cO L (r.headD 0)) 0) (if dO L (r.headD 0) = true then r.getD 1 0 else 0) ((n : Int) + (uO L (r.headD 0) : Int)) (kO n L (r.headD 0)) (r.drop (uO L (r.headD 0))) (decide (uO L (r.headD 0) ≤ r.length))
theorem g0 (r : List Int) : r.getD 0 0 = r.headD 0 := by cases r <;> rfl
theorem g1 (r : List Int) : r.getD 1 0 = r.tail.headD 0 := by rcases r with _ | ⟨x, _ | ⟨y, r⟩⟩ <;> rfl
theorem g2 (r : List Int) : r.getD 2 0 = r.tail.tail.headD 0 := by rcases r with _ | ⟨x, _ | ⟨y, _ | ⟨z, r⟩⟩⟩ <;> rfl
theorem d2 (r : List Int) : r.drop 2 = r.tail.tail := by rw [← List.drop_one, ← List.drop_one, List.drop_drop]
theorem d3 (r : List Int) : r.drop 3 = r.tail.tail.tail := by rw [← List.drop_one, ← List.drop_one, ← List.drop_one, List.drop_drop, List.drop_drop]
theorem Nx_Bd (b : List Int) : Nx b = Bd (cntP b) (lastP 0 b) (restP b) := by
  unfold Nx Bd uO pO cO dO kO
  split
  · simp only [g1, d2, fl2, if_false, Bool.false_eq_true]; rfl
  · split
    · split
      · rename_i h; simp only [h, g1, d2, fl2, beq_self_eq_true, Bool.not_true, if_false, Bool.false_eq_true]; rfl
      · rename_i h; simp only [show (lastP 0 b == 0) = false by simpa using h, g1, g2, d3, fl3, Bool.not_false, if_true]; rfl
    · split
      · simp only [g0, List.drop_one, fl1, if_false, Bool.false_eq_true]; rfl
      · split
        · rename_i h; simp only [h, g0, g1, d2, fl2, if_true]; rfl
        · rename_i h; simp only [h, g0, List.drop_one, fl1, if_false, Bool.false_eq_true]; rfl
theorem u_pos (L c : Int) : 1 ≤ uO L c ∧ uO L c ≤ 3 ∧ cO L c < uO L c ∧ (dO L c = true → 1 < uO L c) := by
  unfold uO cO dO
  split
  · simp
  · split
    · by_cases h : L = 0
      · simp [h]
      · simp [h]
    · by_cases h : L = 0
      · simp [h]
      · cases hn : nr 3 c <;> simp [h]
theorem immT_take {s : Int} {t m : List Int} (h0 : 0 ≤ s) (h2 : s ≤ 2) (hs : s ≤ t.length) : immT s (t.take s.toNat ++ m) = immT s t := by
  have : s = 0 ∨ s = 1 ∨ s = 2 := by omega
  unfold immT
  rcases this with rfl | rfl | rfl
  · rfl
  · cases t with
    | nil => simp at hs
    | cons x t => rfl
  · rcases t with _ | ⟨x, _ | ⟨y, t⟩⟩
    · simp at hs
    · simp at hs
    · rfl
theorem fin_bad {p c d n k : Int} {t : List Int} {fl : Bool} (h : fl = false ∨ ¬ sz p c ≤ t.length) : fin p c d n k t fl = (0, 0, 0, 0, 0, 0, false) := by
  unfold fin
  rw [if_neg]
  rcases h with rfl | h
  · simp
  · simp [h]
theorem getD_take {r m : List Int} {i j : Nat} (hi : i < j) (hj : j ≤ r.length) : (r.take j ++ m).getD i 0 = r.getD i 0 := by
  simp only [List.getD_eq_getElem?_getD]
  rw [List.getElem?_append_left (by simp; omega), List.getElem?_take_of_lt hi]
theorem head_take {r m : List Int} {j : Nat} (hi : 0 < j) (hj : j ≤ r.length) : (r.take j ++ m).headD 0 = r.headD 0 := by
  rw [← g0, getD_take hi hj, g0]
/-- Behind it anything may stand; cut within it is none. -/
theorem Bd_take {n : Nat} {L : Int} {r : List Int} (hr : By r) (h : (Bd n L r).2.2.2.2.2.2 = true) :
    ∃ m : Nat, m ≤ r.length ∧ 1 ≤ m ∧ (Bd n L r).2.2.2.2.1 = (n : Int) + (m : Int) ∧ (∀ more, Bd n L (r.take m ++ more) = Bd n L r) ∧ ∀ j, j < m → (Bd n L (r.take j)).2.2.2.2.2.2 = false := by
  obtain ⟨u1, u2, u3, u4⟩ := u_pos L (r.headD 0)
  have hc : ∀ i, 0 ≤ r.getD i 0 ∧ r.getD i 0 ≤ 255 := fun i => by
    by_cases hi : i < r.length
    · have : r.getD i 0 = r[i] := by simp [hi]
      rw [this]; exact hr _ (List.getElem_mem hi)
    · simp [List.getElem?_eq_none (Nat.le_of_not_lt hi)]
  obtain ⟨_, _, s1, s2⟩ := sz_at (p := pO L (r.headD 0)) (hc (cO L (r.headD 0)))
  obtain ⟨f1, f2, f3, f4⟩ := fin_len (by omega) s1 (show (fin _ _ _ _ _ _ _).2.2.2.2.2.2 = true from h)
  have f3' : uO L (r.headD 0) ≤ r.length := by simpa using f3
  simp only [List.length_drop] at f4
  refine ⟨uO L (r.headD 0) + (sz (pO L (r.headD 0)) (r.getD (cO L (r.headD 0)) 0)).toNat, by omega, by omega, ?_, fun more => ?_, fun j hj => ?_⟩
  · rw [show (Bd n L r).2.2.2.2.1 = _ from f2]; omega
  · have hh : (r.take (uO L (r.headD 0) + (sz (pO L (r.headD 0)) (r.getD (cO L (r.headD 0)) 0)).toNat) ++ more).headD 0 = r.headD 0 := head_take (by omega) (by omega)
    unfold Bd
    rw [hh, getD_take (by omega) (by omega)]
    have hd : (if dO L (r.headD 0) = true then (r.take (uO L (r.headD 0) + (sz (pO L (r.headD 0)) (r.getD (cO L (r.headD 0)) 0)).toNat) ++ more).getD 1 0 else 0) = (if dO L (r.headD 0) = true then r.getD 1 0 else 0) := by
      split
      · rename_i hd; rw [getD_take (by have := u4 hd; omega) (by omega)]
      · rfl
    rw [hd]
    have hdr : (r.take (uO L (r.headD 0) + (sz (pO L (r.headD 0)) (r.getD (cO L (r.headD 0)) 0)).toNat) ++ more).drop (uO L (r.headD 0)) = (r.drop (uO L (r.headD 0))).take (sz (pO L (r.headD 0)) (r.getD (cO L (r.headD 0)) 0)).toNat ++ more := by
      rw [List.drop_append_of_le_length (by simp only [List.length_append, List.length_take, List.length_drop, decide_eq_false_iff_not]; omega), List.drop_take]
      congr 2
      omega
    rw [hdr]
    unfold fin
    rw [immT_take s1 s2 (by simp only [List.length_drop]; omega)]
    have e1 : (decide (uO L (r.headD 0) ≤ (r.take (uO L (r.headD 0) + (sz (pO L (r.headD 0)) (r.getD (cO L (r.headD 0)) 0)).toNat) ++ more).length) && decide (sz (pO L (r.headD 0)) (r.getD (cO L (r.headD 0)) 0) ≤ (((r.drop (uO L (r.headD 0))).take (sz (pO L (r.headD 0)) (r.getD (cO L (r.headD 0)) 0)).toNat ++ more).length : Int))) = true := by
      simp only [Bool.and_eq_true, decide_eq_true_eq, List.length_append, List.length_take, List.length_drop]
      omega
    have e2 : (decide (uO L (r.headD 0) ≤ r.length) && decide (sz (pO L (r.headD 0)) (r.getD (cO L (r.headD 0)) 0) ≤ ((r.drop (uO L (r.headD 0))).length : Int))) = true := by
      simp only [Bool.and_eq_true, decide_eq_true_eq, List.length_drop]
      omega
    rw [if_pos e1, if_pos e2]
  · unfold Bd
    by_cases hj0 : j = 0
    · subst hj0
      rw [fin_bad (.inl (by simp; have := (u_pos L 0).1; omega))]
    · have hh : (r.take j).headD 0 = r.headD 0 := by have := head_take (r := r) (m := []) (j := j) (by omega) (by omega); simpa using this
      rw [hh]
      by_cases hju : j < uO L (r.headD 0)
      · rw [fin_bad (.inl (by simp only [List.length_append, List.length_take, List.length_drop, decide_eq_false_iff_not]; omega))]
      · have hg : (r.take j).getD (cO L (r.headD 0)) 0 = r.getD (cO L (r.headD 0)) 0 := by have := getD_take (r := r) (m := []) (i := cO L (r.headD 0)) (j := j) (by omega) (by omega); simpa using this
        rw [hg, fin_bad (.inr (by simp only [List.length_take, List.length_drop]; omega))]
/-! ### Bytes by their prefixes -/
def preP : List Int → List Int
  | [] => []
  | x :: xs => if isP x then x :: preP xs else []
theorem pre_rest : ∀ b : List Int, preP b ++ restP b = b
  | [] => rfl
  | x :: xs => by
    simp only [preP, restP]
    split
    · simp [pre_rest xs]
    · rfl
theorem pre_len : ∀ b : List Int, (preP b).length = cntP b
  | [] => rfl
  | x :: xs => by
    simp only [preP, cntP]
    split
    · simp [pre_len xs]
    · rfl
theorem pre_all : ∀ b : List Int, ∀ x ∈ preP b, isP x = true
  | [], x, h => by simp [preP] at h
  | y :: ys, x, h => by
    simp only [preP] at h
    split at h
    · rename_i hy
      rcases List.mem_cons.1 h with rfl | h
      · exact hy
      · exact pre_all ys x h
    · simp at h
theorem rest_head : ∀ b : List Int, restP b = [] ∨ isP ((restP b).headD 0) = false
  | [] => .inl rfl
  | x :: xs => by
    simp only [restP]
    split
    · exact rest_head xs
    · rename_i h; right; simpa using h
theorem parts_of : ∀ (P r : List Int) (l : Int), (∀ x ∈ P, isP x = true) → (r = [] ∨ isP (r.headD 0) = false) → cntP (P ++ r) = P.length ∧ restP (P ++ r) = r ∧ lastP l (P ++ r) = lastP l P
  | [], r, l, hP, hr => by
    cases r with
    | nil => exact ⟨rfl, rfl, rfl⟩
    | cons x r =>
      rcases hr with h | h
      · cases h
      · simp only [List.headD_cons] at h
        simp [cntP, restP, lastP, h]
  | x :: P, r, l, hP, hr => by
    obtain ⟨h1, h2, h3⟩ := parts_of P r x (fun y hy => hP y (List.mem_cons_of_mem _ hy)) hr
    have hx := hP x List.mem_cons_self
    simp [cntP, restP, lastP, hx, h1, h2, h3]
theorem Nx_of {P r : List Int} (hP : ∀ x ∈ P, isP x = true) (hr : r = [] ∨ isP (r.headD 0) = false) : Nx (P ++ r) = Bd P.length (lastP 0 P) r := by
  obtain ⟨h1, h2, h3⟩ := parts_of P r 0 hP hr
  rw [Nx_Bd, h1, h2, h3]
theorem Nx_all {P : List Int} (hP : ∀ x ∈ P, isP x = true) : (Nx P).2.2.2.2.2.2 = false := by
  have := Nx_of (r := []) hP (.inl rfl)
  rw [List.append_nil] at this
  rw [this]
  unfold Bd
  rw [fin_bad (.inl (by simp; have := (u_pos (lastP 0 P) 0).1; omega))]
theorem rest_of_is {b : List Int} (h : isN b = true) : restP b ≠ [] := fun h0 => by
  have h1 := pre_rest b
  rw [h0, List.append_nil] at h1
  have := Nx_all (pre_all b)
  rw [h1] at this
  unfold isN at h
  rw [h] at this
  cases this
theorem Nx_take {b : List Int} (hb : By b) (h : isN b = true) : (∀ more, Nx (b.take (lenN b) ++ more) = Nx b) ∧ (∀ k, k < lenN b → (Nx (b.take k)).2.2.2.2.2.2 = false) ∧ lenN b ≤ b.length ∧ cntP b < lenN b := by
  have hr : By (restP b) := by rw [rest_eq]; exact hb.drop _
  have hne := rest_of_is h
  have hrh := rest_head b
  have hB : Nx b = Bd (preP b).length (lastP 0 (preP b)) (restP b) := by
    have := Nx_of (pre_all b) hrh
    rwa [pre_rest] at this
  have h' := h
  unfold isN at h'
  rw [hB] at h'
  obtain ⟨m, m1, m2, m3, m4, m5⟩ := Bd_take hr h'
  obtain ⟨g1, g2, g3⟩ := lenN_of hb h
  rw [hB] at g1
  have hlen : lenN b = (preP b).length + m := by omega
  have htk : ∀ j, b.take ((preP b).length + j) = preP b ++ (restP b).take j := fun j => by
    have h1 : (preP b ++ restP b).take ((preP b).length + j) = preP b ++ (restP b).take j := List.take_length_add_append ..
    rwa [pre_rest] at h1
  have hhead : ∀ j more, 0 < j → ((restP b).take j ++ more = [] ∨ isP (((restP b).take j ++ more).headD 0) = false) := fun j more hj => by
    right
    rcases hrh with h0 | h0
    · exact absurd h0 hne
    · cases hq : restP b with
      | nil => exact absurd hq hne
      | cons x t =>
        rw [hq] at h0
        obtain ⟨j, rfl⟩ : ∃ i, j = i + 1 := ⟨j - 1, by omega⟩
        simpa using h0
  refine ⟨fun more => ?_, fun k hk => ?_, g3, ?_⟩
  · rw [hlen, htk, List.append_assoc, Nx_of (pre_all b) (hhead m more (by omega)), m4, ← hB]
  · by_cases hkp : k ≤ (preP b).length
    · have : b.take k = (preP b).take k := by
        have h1 : (preP b ++ restP b).take k = (preP b).take k := List.take_append_of_le_length hkp
        rwa [pre_rest] at h1
      rw [this]
      exact Nx_all (fun x hx => pre_all b x (List.mem_of_mem_take hx))
    · obtain ⟨j, rfl⟩ : ∃ j, k = (preP b).length + j := ⟨k - (preP b).length, by omega⟩
      rw [htk]
      have := hhead j [] (by omega)
      rw [List.append_nil] at this
      rw [Nx_of (pre_all b) this]
      exact m5 j (by omega)
  · rw [← pre_len]; omega
theorem last_cons {P : List Int} (hP : ∀ x ∈ P, isP x = true) (hne : P ≠ []) (x l : Int) (hx : isP x = true) : lastP l (x :: P) = lastP l P := by
  cases P with
  | nil => exact absurd rfl hne
  | cons y P =>
    have hy := hP y List.mem_cons_self
    simp [lastP, hx, hy]
end Go.Proofs.YtmcdkmakjjlcnaaDoor.Tim
