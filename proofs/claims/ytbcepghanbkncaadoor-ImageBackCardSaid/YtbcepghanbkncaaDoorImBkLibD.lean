/- Memories in banks: bytes put into rising rows. -/
import Derived.Test.YtbcepghanbkncaaDoorImBkLibC
set_option linter.unusedVariables false
set_option linter.unusedSimpArgs false
namespace Go.Proofs.YtbcepghanbkncaaDoor.Im
open Go.RowKit Go.Eng
def md (a v : Int) : List Sp := if v = 0 then [] else [(a, v)]
def Ris (l : List Sp) : Prop := l.Pairwise (fun x y => x.1 < y.1)
theorem md_mem {a v : Int} {x : Sp} (h : x ∈ md a v) : x = (a, v) ∧ v ≠ 0 := by
  unfold md at h
  split at h
  · cases h
  · rename_i hv
    exact ⟨by simpa using h, hv⟩
theorem dec_at : ∀ (l : List Sp) (a : Int), Ris l → (∀ x ∈ l, x.2 ≠ 0) → ∃ A B v, l = A ++ (md a v ++ B) ∧ (∀ x ∈ A, x.1 < a) ∧ (∀ x ∈ B, a < x.1)
  | [], a, _, _ => ⟨[], [], 0, by simp [md], by simp, by simp⟩
  | x :: l, a, h, hz => by
    have hr := (List.pairwise_cons.1 h)
    by_cases h1 : x.1 < a
    · obtain ⟨A, B, v, h2, h3, h4⟩ := dec_at l a hr.2 (fun y hy => hz y (by simp [hy]))
      exact ⟨x :: A, B, v, by rw [h2]; rfl, fun y hy => (List.mem_cons.1 hy).elim (fun e => e ▸ h1) (h3 y), h4⟩
    · by_cases h2 : x.1 = a
      · refine ⟨[], l, x.2, ?_, by simp, fun y hy => by have := hr.1 y hy; omega⟩
        have := hz x (by simp)
        simp only [md, if_neg this, List.nil_append, List.singleton_append, ← h2]
      · exact ⟨[], x :: l, 0, by simp [md], by simp, fun y hy => (List.mem_cons.1 hy).elim (fun e => by subst e; omega) (fun hy => by have := hr.1 y hy; omega)⟩
theorem filter_all {p : Sp → Bool} {l : List Sp} (h : ∀ x ∈ l, p x = true) : l.filter p = l := List.filter_eq_self.2 h
theorem tw_split {p : Sp → Bool} : ∀ (A B : List Sp), (∀ x ∈ A, p x = true) → (∀ x ∈ B, p x = false) → (A ++ B).takeWhile p = A ∧ (A ++ B).dropWhile p = B
  | [], [], _, _ => ⟨rfl, rfl⟩
  | [], y :: B, _, h => by
    have := h y (by simp)
    simp [List.takeWhile_cons, List.dropWhile_cons, this]
  | x :: A, B, h1, h2 => by
    have hx := h1 x (by simp)
    obtain ⟨e1, e2⟩ := tw_split A B (fun y hy => h1 y (by simp [hy])) h2
    simp [List.takeWhile_cons, List.dropWhile_cons, hx, e1, e2]
theorem pt_dec {A B : List Sp} {a v b : Int} (hA : ∀ x ∈ A, x.1 < a) (hB : ∀ x ∈ B, a < x.1) : ptS (A ++ (md a v ++ B)) a b = A ++ (md a b ++ B) := by
  unfold ptS
  rw [show A ++ (md a v ++ B) = A ++ md a v ++ B from (List.append_assoc _ _ _).symm]
  obtain ⟨e1, e2⟩ := tw_split (p := fun x => !(decide (x.1 > a))) (A ++ md a v) B (fun x hx => by
    rcases List.mem_append.1 hx with hx | hx
    · have := hA x hx; simp; omega
    · obtain ⟨rfl, _⟩ := md_mem hx; simp) (fun x hx => by have := hB x hx; simp; omega)
  rw [e1, e2, List.filter_append]
  have h1 : A.filter (fun x => !(x.1 == a)) = A := filter_all fun x hx => by have := hA x hx; simp; omega
  have h2 : B.filter (fun x => !(x.1 == a)) = B := filter_all fun x hx => by have := hB x hx; simp; omega
  have h3 : (md a v).filter (fun x => !(x.1 == a)) = [] := by
    rw [List.filter_eq_nil_iff]
    intro x hx
    obtain ⟨rfl, _⟩ := md_mem hx
    simp
  rw [h1, h2, h3, List.append_nil]
  rfl
theorem find_none {l : List Sp} {a : Int} (h : ∀ x ∈ l, x.1 ≠ a) : l.find? (fun x => x.1 == a) = none := by
  rw [List.find?_eq_none]
  intro x hx
  simpa using h x hx
theorem ris_dec {A B : List Sp} {a v b : Int} (hA : ∀ x ∈ A, x.1 < a) (hB : ∀ x ∈ B, a < x.1) (h : Ris (A ++ (md a v ++ B))) : Ris (A ++ (md a b ++ B)) := by
  unfold Ris at h ⊢
  rw [List.pairwise_append, List.pairwise_append] at h ⊢
  obtain ⟨h1, ⟨h2, h3, h4⟩, h5⟩ := h
  refine ⟨h1, ⟨by unfold md; split <;> simp, h3, fun x hx y hy => ?_⟩, fun x hx y hy => ?_⟩
  · obtain ⟨rfl, _⟩ := md_mem hx
    exact hB y hy
  · rcases List.mem_append.1 hy with hy | hy
    · obtain ⟨rfl, _⟩ := md_mem hy
      exact hA x hx
    · have := hA x hx
      have := hB y hy
      omega
theorem ris_low (l : List Sp) : (List.range' 1 (l.length - 1)).any (lowS l) = false ↔ Ris l := by
  rw [List.any_eq_false]
  simp only [List.mem_range'_1]
  unfold Ris lowS
  rw [List.pairwise_iff_getElem]
  constructor
  · intro h
    have step : ∀ i, (hi : i + 1 < l.length) → (l[i]).1 < (l[i + 1]).1 := fun i hi => by
      have := h (i + 1) (by omega)
      rw [rdD_nat l hi, show i + 1 - 1 = i by omega, rdD_nat l (by omega)] at this
      simp only [decide_eq_true_eq] at this
      omega
    have all : ∀ d i, (hi : i + d + 1 < l.length) → (l[i]'(by omega)).1 < (l[i + d + 1]).1 := by
      intro d
      induction d with
      | zero => intro i hi; exact step i hi
      | succ d ih =>
        intro i hi
        have h1 := ih i (by omega)
        have h2 := step (i + d + 1) (by omega)
        exact Int.lt_trans h1 h2
    intro i j hi hj hij
    have := all (j - i - 1) i (by omega)
    simpa [show i + (j - i - 1) + 1 = j by omega] using this
  · intro h i hi
    rw [rdD_nat l (show i < l.length by omega), rdD_nat l (show i - 1 < l.length by omega)]
    have := h (i - 1) i (by omega) (by omega) (by omega)
    simp only [decide_eq_true_eq]
    omega
/-- May it be? In words of lists. -/
theorem ck_iff (r : List Int) (n bk : Int) (l : List Sp) : ckS r n bk l = true ↔ hdS r n bk = true ∧ (∀ x ∈ l, badS n x = false) ∧ Ris l := by
  unfold ckS
  rw [Bool.and_eq_true, Bool.and_eq_true, Bool.not_eq_true', Bool.not_eq_true', ris_low, List.any_eq_false]
  constructor
  · rintro ⟨⟨h1, h2⟩, h3⟩
    exact ⟨h1, fun x hx => by simpa using h2 x hx, h3⟩
  · rintro ⟨h1, h2, h3⟩
    exact ⟨⟨h1, fun x hx => by simpa using h2 x hx⟩, h3⟩
theorem bad_iff (n : Int) (x : Sp) : badS n x = false ↔ x.2 ≠ 0 ∧ 0 ≤ x.1 ∧ x.1 < 65536 + 16384 * n := by
  unfold badS
  rw [Bool.or_eq_false_iff, Bool.or_eq_false_iff]
  simp only [beq_eq_false_iff_ne, ne_eq, decide_eq_false_iff_not]
  constructor
  · rintro ⟨⟨h1, h2⟩, h3⟩; exact ⟨h1, by omega, by omega⟩
  · rintro ⟨h1, h2, h3⟩; exact ⟨⟨h1, by omega⟩, by omega⟩
def atS (bk a : Int) : Int := if 32768 ≤ a ∧ a < 49152 then 65536 + 16384 * bk + a - 32768 else a
end Go.Proofs.YtbcepghanbkncaaDoor.Im
