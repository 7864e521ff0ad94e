/- A memory's records. -/
import Derived.Test.YtilgjfckgkkfmaaDoorHxLibE
import Derived.Test.YtilgjfckgkkfmaaDoorHxLibD
set_option linter.unusedVariables false
set_option linter.unusedSimpArgs false
namespace Go.Proofs.YtilgjfckgkkfmaaDoor.Hx
open Go.RowKit Go.Eng
def grp (a : Int) (d : List Int) : List Cel → List (Int × List Int)
  | [] => if d = [] then [] else [(a, d)]
  | c :: cs => if d ≠ [] ∧ (d.length = 16 ∨ c.1 ≠ a + d.length) then (a, d) :: grp c.1 [c.2] cs else grp (if d = [] then c.1 else a) (d ++ [c.2]) cs
def recB (k a : Int) (d : List Int) : List UInt8 := (lineI k a d).map toB ++ [10]
def recs (l : List (Int × List Int)) : List UInt8 := l.flatMap fun g => recB 0 g.1 g.2
def showL (m : List Cel) : List UInt8 := recs (grp 0 [] m) ++ recB 1 0 []
/-- Cells as they come in: their bytes, too. -/
def okB (l : List Cel) : Prop := ∀ p ∈ l, (0 ≤ p.1 ∧ p.1 < 65536) ∧ byt p.2
theorem okB.mem {l : List Cel} (h : okB l) : okB (memC l) := fun p hp => h p (memC_mem hp)
theorem okB.c {l : List Cel} (h : okB l) : okC l := fun p hp => (h p hp).1
def St := List UInt8 × Int × List Int
def stp (s : List UInt8 × Int × List Int) (c : Cel) : List UInt8 × Int × List Int :=
  if s.2.2 ≠ [] ∧ (s.2.2.length = 16 ∨ c.1 ≠ s.2.1 + s.2.2.length) then (s.1 ++ recB 0 s.2.1 s.2.2, c.1, [c.2]) else (s.1, if s.2.2 = [] then c.1 else s.2.1, s.2.2 ++ [c.2])
def finS (s : List UInt8 × Int × List Int) : List UInt8 := if s.2.2 = [] then s.1 else s.1 ++ recB 0 s.2.1 s.2.2
theorem stp_yes {s1 : List UInt8} {a : Int} {d : List Int} {c : Cel} (h : d ≠ [] ∧ (d.length = 16 ∨ c.1 ≠ a + d.length)) : stp (s1, a, d) c = (s1 ++ recB 0 a d, c.1, [c.2]) := if_pos h
theorem stp_no {s1 : List UInt8} {a : Int} {d : List Int} {c : Cel} (h : ¬(d ≠ [] ∧ (d.length = 16 ∨ c.1 ≠ a + d.length))) : stp (s1, a, d) c = (s1, if d = [] then c.1 else a, d ++ [c.2]) := if_neg h
theorem fin_fold : ∀ (m : List Cel) (s : List UInt8 × Int × List Int), finS (m.foldl stp s) = s.1 ++ recs (grp s.2.1 s.2.2 m)
  | [], s => by
    unfold finS
    rw [List.foldl_nil, grp]
    by_cases h : s.2.2 = []
    · rw [if_pos h, if_pos h]; simp [recs]
    · rw [if_neg h, if_neg h]; simp [recs]
  | c :: m, s => by
    rw [List.foldl_cons, fin_fold m, grp, stp]
    by_cases h : s.2.2 ≠ [] ∧ (s.2.2.length = 16 ∨ c.1 ≠ s.2.1 + s.2.2.length)
    · rw [if_pos h, if_pos h]
      simp [recs]
    · rw [if_neg h, if_neg h]
theorem recB_len (k a : Int) (d : List Int) : (recB k a d).length = 12 + 2 * d.length := by
  unfold recB
  rw [List.length_append, List.length_map, lineI_len]
  simp; omega
theorem line_ok {k a : Int} {d : List Int} (hd : d.length ≤ 255) (hk : byt k) (ha : 0 ≤ a ∧ a < 65536) (hb : ∀ x ∈ d, byt x) : hexfile_Line_11.f 1000 k a d = some (ba ((lineI k a d).map toB), 0) := by
  rw [goLine (by omega) hk ha hb, lineS, if_neg (by omega), strOf_toB]
theorem rline_ok {k a : Int} {d : List Int} (hd : d.length ≤ 255) (hk : byt k) (ha : 0 ≤ a ∧ a < 65536) (hb : ∀ x ∈ d, byt x) : charabancref33_Line_12.f 1000 k a d = some (ba ((lineI k a d).map toB), 0) := by
  rw [refLine (by omega) hk ha hb, lineS, if_neg (by omega), strOf_toB]
theorem b0 : byt 0 := by unfold byt; omega
theorem b1 : byt 1 := by unfold byt; omega
theorem app_nl (l : List UInt8) : (ba l ++ (⟨#[10]⟩ : ByteArray)) = ba (l ++ [10]) := ba_app l [10]
structure Inv (i : Nat) (s : List UInt8 × Int × List Int) : Prop where
  n : s.1.length ≤ 44 * i
  a : 0 ≤ s.2.1 ∧ s.2.1 < 65536
  d : s.2.2.length ≤ 16
  b : ∀ x ∈ s.2.2, byt x
theorem Inv.next {i : Nat} {s : List UInt8 × Int × List Int} (h : Inv i s) {c : Cel} (hc : (0 ≤ c.1 ∧ c.1 < 65536) ∧ byt c.2) : Inv (i + 1) (stp s c) := by
  unfold stp
  obtain ⟨h1, h2, h3, h4⟩ := h
  split
  · refine ⟨?_, hc.1, by simp, fun x hx => by obtain rfl := List.mem_singleton.1 hx; exact hc.2⟩
    rw [List.length_append, recB_len]
    omega
  · next hn =>
    refine ⟨by show s.1.length ≤ _; omega, ?_, ?_, fun x hx => ?_⟩
    · show 0 ≤ (if s.2.2 = [] then c.1 else s.2.1) ∧ _
      split
      · exact hc.1
      · exact h2
    · show (s.2.2 ++ [c.2]).length ≤ 16
      rw [List.length_append, List.length_singleton]
      by_cases h0 : s.2.2 = []
      · rw [h0]; simp
      · have : ¬ s.2.2.length = 16 := fun h16 => hn ⟨h0, .inl h16⟩
        omega
    · rcases List.mem_append.1 hx with hx | hx
      · exact h4 x hx
      · obtain rfl := List.mem_singleton.1 hx
        exact hc.2
theorem show_step {p0 m : List Cel} {n : Int} {k : Nat} {s : List UInt8 × Int × List Int} {i : Nat} (hn : n = m.length) (hm : m.length ≤ 900) (hi : i < m.length) (hI : Inv i s) (hc : (0 ≤ (m[i]).1 ∧ (m[i]).1 < 65536) ∧ byt (m[i]).2) :
    hexfile_Show_21.l0 1000 p0 m n (k + 1) s.1 s.2.1 s.2.2 (i : Int) = hexfile_Show_21.l0 1000 p0 m n k (stp s m[i]).1 (stp s m[i]).2.1 (stp s m[i]).2.2 ((i + 1 : Nat) : Int) := by
  obtain ⟨h1, h2, h3, h4⟩ := hI
  obtain ⟨s1, a, d⟩ := s
  simp only at h1 h2 h3 h4
  subst hn
  rw [hexfile_Show_21.l0.eq_2, decide_eq_true (by omega), cond_t, inR_nat hi, cond_t, rdD_nat m hi, wrap_nat (by omega), wrap_i64 (x := (m[i]).1) (by omega) (by omega), wrap_i64 (x := a) (by omega) (by omega), wrap_i64 (x := a + (d.length : Int)) (by omega) (by omega)]
  simp only [Let]
  have hend : ∀ s', cond ((d.length : Int) == 0) (cond (mayBe (d.length + ([(m[i]).2] : List Int).length) 1) (hexfile_Show_21.l0 1000 p0 m (m.length : Int) k s' (m[i]).1 (d ++ [(m[i]).2]) ((i + 1 : Nat) : Int)) none) (cond (mayBe (d.length + ([(m[i]).2] : List Int).length) 1) (hexfile_Show_21.l0 1000 p0 m (m.length : Int) k s' a (d ++ [(m[i]).2]) ((i + 1 : Nat) : Int)) none) =
      hexfile_Show_21.l0 1000 p0 m (m.length : Int) k s' (if d = [] then (m[i]).1 else a) (d ++ [(m[i]).2]) ((i + 1 : Nat) : Int) := by
    intro s'
    rw [mayBe_of (by simp; omega) (by simp; omega), cond_t, cond_t]
    by_cases h0 : d = []
    · subst h0; rfl
    · have : ((d.length : Int) == 0) = false := by
        cases d with
        | nil => exact absurd rfl h0
        | cons => simp; omega
      rw [this, cond_f, if_neg h0]
  by_cases h0 : d = []
  · subst h0
    rw [stp_no (by simp), show decide ((([] : List Int).length : Int) > 0) = false by decide, cond_f, cond_f]
    exact hend s1
  · have hlen : 0 < d.length := List.length_pos_iff.2 h0
    have hrec : ((hexfile_Line_11.f 1000 0 a d).bind fun yt90 => cond (mayCat yt90.1.size (⟨#[10]⟩ : ByteArray).size) (cond (bldR s1.length (yt90.1 ++ (⟨#[10]⟩ : ByteArray)).size) (cond (((0 : Int)) == 0) (cond (mayBe (([] : List Int).length + ([(m[i]).2] : List Int).length) 1) (hexfile_Show_21.l0 1000 p0 m (m.length : Int) k (s1 ++ (yt90.1 ++ (⟨#[10]⟩ : ByteArray)).data.toList) (m[i]).1 (([] : List Int) ++ [(m[i]).2]) ((i + 1 : Nat) : Int)) none) (cond (mayBe (([] : List Int).length + ([(m[i]).2] : List Int).length) 1) (hexfile_Show_21.l0 1000 p0 m (m.length : Int) k (s1 ++ (yt90.1 ++ (⟨#[10]⟩ : ByteArray)).data.toList) 0 (([] : List Int) ++ [(m[i]).2]) ((i + 1 : Nat) : Int)) none)) none) none) =
        hexfile_Show_21.l0 1000 p0 m (m.length : Int) k (s1 ++ recB 0 a d) (m[i]).1 [(m[i]).2] ((i + 1 : Nat) : Int) := by
      rw [line_ok (by omega) b0 h2 h4, Option.bind_some]
      dsimp only
      have hsz : (ba ((lineI 0 a d).map toB)).size = 11 + 2 * d.length := by rw [ba_size, List.length_map, lineI_len]
      rw [cat_of (by rw [hsz]; show 11 + 2 * d.length + 1 ≤ _; omega), cond_t, app_nl, show bldR s1.length (ba ((lineI 0 a d).map toB ++ [10])).size = true from Nat.ble_eq_true_of_le (by rw [ba_size, List.length_append, List.length_map, lineI_len]; simp; omega), cond_t]
      rfl
    rw [decide_eq_true (show (d.length : Int) > 0 by omega), cond_t]
    by_cases h16 : d.length = 16
    · rw [show ((d.length : Int) == 16) = true by simp; omega, cond_t, cond_t, stp_yes ⟨h0, .inl h16⟩]
      exact hrec
    · rw [show ((d.length : Int) == 16) = false by simp; omega, cond_f]
      by_cases hne : (m[i]).1 ≠ a + d.length
      · rw [show ((m[i]).1 != a + (d.length : Int)) = true by simpa using hne, cond_t, stp_yes ⟨h0, .inr hne⟩]
        exact hrec
      · rw [show ((m[i]).1 != a + (d.length : Int)) = false by simpa using hne, cond_f, hend, stp_no (fun h => h.2.elim h16 hne)]
theorem goShow {l : List Cel} (hl : l.length ≤ 800) (ho : okB l) : hexfile_Show_21.f 1000 l = some (ba (showL (memC l))) := by
  have hm := memC_len l
  have hom := ho.mem
  unfold hexfile_Show_21.f
  rw [goMake (by omega), Option.bind_some]
  generalize memC l = m at hm hom ⊢
  have e : hexfile_Show_21.l0 1000 l m (m.length : Int) 1000 [] 0 [] 0 = some (m.foldl stp ([], 0, [])) := by
    refine loop0 (fun k (s : List UInt8 × Int × List Int) i => hexfile_Show_21.l0 1000 l m (m.length : Int) k s.1 s.2.1 s.2.2 i) m stp some Inv ?_ ?_ (K := 1000) (by omega) (s := ([], 0, [])) ⟨by simp, by simp, by simp, by simp⟩
    · intro k s _
      show hexfile_Show_21.l0 1000 l m (m.length : Int) (k + 1) s.1 s.2.1 s.2.2 (m.length : Int) = _
      rw [hexfile_Show_21.l0.eq_2, decide_eq_false (by omega), cond_f]
    · intro k s j hj hI
      exact ⟨show_step rfl (by omega) hj hI (hom _ (List.getElem_mem hj)), hI.next (hom _ (List.getElem_mem hj))⟩
  have hI : Inv m.length (m.foldl stp ([], 0, [])) := by
    have : ∀ (r : List Cel) (i : Nat) (s : List UInt8 × Int × List Int), okB r → Inv i s → Inv (i + r.length) (r.foldl stp s) := by
      intro r
      induction r with
      | nil => intro i s _ h; exact h
      | cons c r ih =>
        intro i s hr h
        rw [List.foldl_cons, List.length_cons, show i + (r.length + 1) = i + 1 + r.length by omega]
        exact ih (i + 1) _ (fun p hp => hr p (List.mem_cons_of_mem _ hp)) (h.next (hr c List.mem_cons_self))
    simpa using this m 0 ([], 0, []) hom ⟨by simp, by simp, by simp, by simp⟩
  have hfin := fin_fold m ([], 0, [])
  rw [e, Option.bind_some]
  generalize m.foldl stp ([], 0, []) = s at hI hfin ⊢
  obtain ⟨s1, a, d⟩ := s
  obtain ⟨h1, h2, h3, h4⟩ := hI
  simp only at h1 h2 h3 h4
  have hlast : ∀ t : List UInt8, t.length ≤ 100000 → ((hexfile_Line_11.f 1000 1 0 ([] : List Int)).bind fun yt218 => cond (mayCat yt218.1.size (⟨#[10]⟩ : ByteArray).size) (cond (bldR t.length (yt218.1 ++ (⟨#[10]⟩ : ByteArray)).size) (cond (Nat.blt 0 (t ++ (yt218.1 ++ (⟨#[10]⟩ : ByteArray)).data.toList).length) (some (⟨List.toArray (t ++ (yt218.1 ++ (⟨#[10]⟩ : ByteArray)).data.toList)⟩ : ByteArray)) none) none) none) = some (ba (t ++ recB 1 0 [])) := by
    intro t ht
    rw [line_ok (by simp) b1 (by omega) (by simp), Option.bind_some]
    dsimp only
    have hsz : (ba ((lineI 1 0 []).map toB)).size = 11 := by rw [ba_size, List.length_map, lineI_len]; rfl
    rw [cat_of (by rw [hsz]; show 11 + 1 ≤ _; omega), cond_t, app_nl, show bldR t.length (ba ((lineI 1 0 []).map toB ++ [10])).size = true from Nat.ble_eq_true_of_le (by rw [ba_size, List.length_append, List.length_map, lineI_len]; simp; omega), cond_t,
      show Nat.blt 0 (t ++ (ba ((lineI 1 0 []).map toB ++ [10])).data.toList).length = true from by
        rw [ba_list, List.length_append, List.length_append, List.length_map, lineI_len]; simp [Nat.blt_eq], cond_t]
    rfl
  simp only [Let, finS] at hfin ⊢
  rw [showL]
  by_cases h0 : d = []
  · subst h0
    rw [if_pos rfl] at hfin
    simp only [List.length_nil]
    rw [show decide (((0 : Nat) : Int) > 0) = false by decide, cond_f, hlast _ (by omega), hfin]
    simp
  · rw [if_neg h0] at hfin
    have hlen : 0 < d.length := List.length_pos_iff.2 h0
    rw [decide_eq_true (show (d.length : Int) > 0 by omega), cond_t, line_ok (by omega) b0 h2 h4, Option.bind_some]
    dsimp only
    have hsz : (ba ((lineI 0 a d).map toB)).size = 11 + 2 * d.length := by rw [ba_size, List.length_map, lineI_len]
    have hf : s1 ++ (ba ((lineI 0 a d).map toB ++ [10])).data.toList = recs (grp 0 [] m) := by rw [ba_list]; simpa [recB] using hfin
    rw [cat_of (by rw [hsz]; show 11 + 2 * d.length + 1 ≤ _; omega), cond_t, app_nl, show bldR s1.length (ba ((lineI 0 a d).map toB ++ [10])).size = true from Nat.ble_eq_true_of_le (by rw [ba_size, List.length_append, List.length_map, lineI_len]; simp; omega), cond_t, hlast _ (by rw [ba_list, List.length_append, List.length_append, List.length_map, lineI_len]; simp; omega), hf]
/-! ### the reference's -/
def runR (a : Int) (d : List Int) : List Cel → List Int × List Cel
  | [] => (d, [])
  | c :: r => if d.length < 16 ∧ c.1 = a + d.length then runR a (d ++ [c.2]) r else (d, c :: r)
theorem run_grp : ∀ (r : List Cel) (a : Int) (d : List Int), d ≠ [] → d.length ≤ 16 → grp a d r = (a, (runR a d r).1) :: grp 0 [] (runR a d r).2
  | [], a, d, h0, h => by simp [grp, runR, h0]
  | c :: r, a, d, h0, h => by
    rw [grp, runR]
    by_cases hc : d.length < 16 ∧ c.1 = a + d.length
    · rw [if_pos hc, if_neg (fun h => h.2.elim (by omega) (fun h => h hc.2)), if_neg h0, run_grp r a _ (by simp) (by simp; omega)]
    · rw [if_neg hc, if_pos ⟨h0, (by by_cases h1 : c.1 = a + d.length; exact .inl (by have : ¬ d.length < 16 := fun h2 => hc ⟨h2, h1⟩; omega); exact .inr h1)⟩, grp, if_neg (by simp)]
      rfl
theorem runR_len : ∀ (r : List Cel) (a : Int) (d : List Int), (runR a d r).1.length + (runR a d r).2.length = d.length + r.length ∧ d.length ≤ (runR a d r).1.length
  | [], a, d => by simp [runR]
  | c :: r, a, d => by
    rw [runR]
    split
    · have := runR_len r a (d ++ [c.2])
      simp only [List.length_append, List.length_cons, List.length_nil] at this ⊢
      omega
    · simp
theorem runR_16 : ∀ (r : List Cel) (a : Int) (d : List Int), d.length ≤ 16 → (runR a d r).1.length ≤ 16
  | [], a, d, h => by simpa [runR] using h
  | c :: r, a, d, h => by
    rw [runR]
    split
    · next hc => exact runR_16 r a _ (by simp; omega)
    · exact h
theorem runR_ok : ∀ (r : List Cel) (a : Int) (d : List Int), (∀ x ∈ d, byt x) → okB r → ∀ x ∈ (runR a d r).1, byt x
  | [], a, d, h, _ => h
  | c :: r, a, d, h, hr => by
    rw [runR]
    split
    · exact runR_ok r a _ (fun x hx => (List.mem_append.1 hx).elim (h x) (fun hx => by obtain rfl := List.mem_singleton.1 hx; exact (hr c List.mem_cons_self).2)) (fun p hp => hr p (List.mem_cons_of_mem _ hp))
    · exact h
theorem runR_drop : ∀ (r : List Cel) (a : Int) (d : List Int), (runR a d r).2 = r.drop ((runR a d r).1.length - d.length)
  | [], a, d => by simp [runR]
  | c :: r, a, d => by
    have h2 := runR_len r a (d ++ [c.2])
    rw [runR]
    split
    · rw [runR_drop r a (d ++ [c.2])]
      simp only [List.length_append, List.length_cons, List.length_nil] at h2 ⊢
      rw [show (runR a (d ++ [c.2]) r).1.length - d.length = (runR a (d ++ [c.2]) r).1.length - (d.length + (0 + 1)) + 1 by omega, List.drop_succ_cons]
    · simp
theorem refRun {p0 m : List Cel} (hm : m.length ≤ 900) (ho : okB m) {s : ByteArray} {a : Int} (ha : 0 ≤ a ∧ a < 65536) : ∀ (k i : Nat) (d : List Int), i ≤ m.length → m.length - i < k → d.length ≤ 16 →
    charabancref33_Show_22.l0 1000 p0 m s a k (i : Int) d = some (((i + ((runR a d (m.drop i)).1.length - d.length) : Nat) : Int), (runR a d (m.drop i)).1)
  | 0, i, d, _, hk, _ => by omega
  | k + 1, i, d, hi, hk, hd => by
    rw [charabancref33_Show_22.l0.eq_2]
    simp only [Let]
    by_cases h0 : i < m.length
    · have hc := ho _ (List.getElem_mem h0)
      rw [decide_eq_true (by omega), cond_t, drop_at h0, runR]
      by_cases h16 : d.length < 16
      · rw [decide_eq_true (by omega), cond_t, inR_nat h0, cond_t, rdD_nat m h0, wrap_i64 (x := (m[i]).1) (by omega) (by omega), wrap_i64 (x := a) (by omega) (by omega), wrap_i64 (x := a + (d.length : Int)) (by omega) (by omega)]
        by_cases he : (m[i]).1 = a + d.length
        · have h2 := runR_len (m.drop (i + 1)) a (d ++ [(m[i]).2])
          simp only [List.length_append, List.length_cons, List.length_nil] at h2
          rw [show ((m[i]).1 == a + (d.length : Int)) = true by simpa using he, cond_t, cond_t, mayBe_of (by simp; omega) (by simp; omega), cond_t, wrap_nat (by omega), if_pos ⟨h16, he⟩, refRun hm ho ha k (i + 1) _ (by omega) (by omega) (by simp; omega)]
          simp only [List.length_append, List.length_cons, List.length_nil, Option.some.injEq, Prod.mk.injEq, and_true]
          omega
        · rw [show ((m[i]).1 == a + (d.length : Int)) = false by simpa using he, cond_f, if_neg (fun h => he h.2)]
          simp
      · rw [decide_eq_false (by omega), cond_f, cond_f, if_neg (fun h => h16 h.1)]
        simp
    · rw [decide_eq_false (by omega), cond_f, cond_f, List.drop_of_length_le (by omega)]
      simp [runR]
theorem refShow1 {p0 m : List Cel} (hm : m.length ≤ 800) (ho : okB m) : ∀ (k i : Nat) (s : List UInt8), i ≤ m.length → m.length - i < k → s.length ≤ 44 * i →
    charabancref33_Show_22.l1 1000 p0 m k (ba s) (i : Int) = some (ba (s ++ recs (grp 0 [] (m.drop i))))
  | 0, i, s, _, hk, _ => by omega
  | k + 1, i, s, hi, hk, hs => by
    rw [charabancref33_Show_22.l1.eq_2]
    by_cases h0 : i < m.length
    · have hc := ho _ (List.getElem_mem h0)
      have hod : okB (m.drop (i + 1)) := fun p hp => ho p (List.mem_of_mem_drop hp)
      rw [decide_eq_true (by omega), cond_t, inR_nat h0, cond_t, rdD_nat m h0, refRun (by omega) ho hc.1 1000 i [] (by omega) (by omega) (by simp), Option.bind_some]
      have e1 : runR (m[i]).1 [] (m.drop i) = runR (m[i]).1 [(m[i]).2] (m.drop (i + 1)) := by
        rw [drop_at h0, runR, if_pos (by simp)]
        rfl
      have e2 : grp 0 [] (m.drop i) = grp (m[i]).1 [(m[i]).2] (m.drop (i + 1)) := by
        rw [drop_at h0, grp, if_neg (by simp)]
        rfl
      rw [e1, e2, run_grp _ _ _ (by simp) (by simp), runR_drop]
      have hl := runR_len (m.drop (i + 1)) (m[i]).1 [(m[i]).2]
      have h16 := runR_16 (m.drop (i + 1)) (m[i]).1 [(m[i]).2] (by simp)
      have hb := runR_ok (m.drop (i + 1)) (m[i]).1 [(m[i]).2] (fun x hx => by obtain rfl := List.mem_singleton.1 hx; exact hc.2) hod
      generalize runR (m[i]).1 [(m[i]).2] (m.drop (i + 1)) = q at hl h16 hb ⊢
      simp only [List.length_cons, List.length_nil, List.length_drop] at hl
      dsimp only
      rw [rline_ok (by omega) b0 hc.1 hb, Option.bind_some]
      dsimp only
      have hsz : (ba ((lineI 0 (m[i]).1 q.1).map toB)).size = 11 + 2 * q.1.length := by rw [ba_size, List.length_map, lineI_len]
      rw [cat_of (by rw [hsz, ba_size]; omega), cond_t, cat_of (by rw [ByteArray.size_append, hsz, ba_size]; show s.length + (11 + 2 * q.1.length) + 1 ≤ _; omega), cond_t, ba_app, app_nl, List.drop_drop,
        refShow1 hm ho k _ _ (by simp; omega) (by simp; omega) (by rw [List.length_append, List.length_append, List.length_map, lineI_len]; simp; omega)]
      simp only [recs, List.flatMap_cons, recB, List.append_assoc, List.length_cons, List.length_nil]
      rw [show i + 1 + (q.1.length - (0 + 1)) = i + (q.1.length - 0) by omega]
    · rw [decide_eq_false (by omega), cond_f, List.drop_of_length_le (by omega)]
      simp [grp, recs]
theorem refShow {l : List Cel} (hl : l.length ≤ 800) (ho : okB l) : charabancref33_Show_22.f 1000 l = some (ba (showL (memC l))) := by
  have hm := memC_len l
  have hom := ho.mem
  unfold charabancref33_Show_22.f
  rw [refMake (by omega) ho.c, Option.bind_some]
  generalize memC l = m at hm hom ⊢
  have e := refShow1 (p0 := l) (m := m) (by omega) hom 1000 0 [] (by omega) (by omega) (by simp)
  rw [show ((0 : Nat) : Int) = 0 from rfl, List.drop_zero, List.nil_append] at e
  rw [show (⟨#[]⟩ : ByteArray) = ba [] from rfl, e, Option.bind_some, rline_ok (by simp) b1 (by omega) (by simp), Option.bind_some]
  dsimp only
  have hrl : ∀ (r : List Cel) (a : Int) (d : List Int), d.length ≤ 16 → (recs (grp a d r)).length ≤ 44 * (r.length + 1) := by
    intro r
    induction r with
    | nil =>
      intro a d h
      rw [grp]
      split
      · simp [recs]
      · simp only [recs, List.flatMap_cons, List.flatMap_nil, List.append_nil, recB_len]
        simp; omega
    | cons c r ih =>
      intro a d h
      rw [grp]
      split
      · have := ih c.1 [c.2] (by simp)
        simp only [recs, List.flatMap_cons, List.length_append, recB_len, List.length_cons] at this ⊢
        omega
      · next hn =>
        have := ih (if d = [] then c.1 else a) (d ++ [c.2]) (by
          rw [List.length_append, List.length_singleton]
          by_cases h0 : d = []
          · rw [h0]; simp
          · have : ¬ d.length = 16 := fun h16 => hn ⟨h0, .inl h16⟩
            omega)
        simp only [List.length_cons] at this ⊢
        omega
  have h5 := hrl m 0 [] (by simp)
  have hsz : (ba ((lineI 1 0 []).map toB)).size = 11 := by rw [ba_size, List.length_map, lineI_len]; rfl
  rw [cat_of (by rw [hsz, ba_size]; omega), cond_t, cat_of (by rw [ByteArray.size_append, hsz, ba_size]; show _ + 11 + 1 ≤ _; omega), cond_t, ba_app, app_nl, showL, recB, List.append_assoc]
end Go.Proofs.YtilgjfckgkkfmaaDoor.Hx
