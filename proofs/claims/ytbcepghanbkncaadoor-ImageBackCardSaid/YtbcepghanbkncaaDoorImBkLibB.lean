/- Memories in banks: the reference's bytes put, what is written, loaded, seen and checked. -/
import Derived.Test.YtbcepghanbkncaaDoorImBkLib
set_option linter.unusedVariables false
set_option linter.unusedSimpArgs false
namespace Go.Proofs.YtbcepghanbkncaaDoor.Im
open Go.RowKit Go.Eng
def stp (a b : Int) (s : List Sp × Bool) (x : Sp) : List Sp × Bool :=
  if x.1 = a then (if x.1 > a ∧ s.2 = false then (s.1 ++ [(a, b)], true) else s)
  else ((if x.1 > a ∧ s.2 = false then (s.1 ++ [(a, b)], true) else s).1 ++ [x], (if x.1 > a ∧ s.2 = false then (s.1 ++ [(a, b)], true) else s).2)
theorem stp_done (a b : Int) : ∀ (l o : List Sp), l.foldl (stp a b) (o, true) = (o ++ l.filter (fun x => !(x.1 == a)), true)
  | [], o => by simp
  | x :: l, o => by
    have hs : stp a b (o, true) x = (o ++ [x].filter (fun x => !(x.1 == a)), true) := by
      unfold stp
      by_cases h : x.1 = a <;> simp [h]
    rw [List.foldl_cons, hs, stp_done a b l, List.append_assoc, ← List.filter_append]
    rfl
theorem stp_not (a b : Int) : ∀ (l o : List Sp), l.foldl (stp a b) (o, false) =
    (o ++ (l.takeWhile (fun x => !(decide (x.1 > a)))).filter (fun x => !(x.1 == a)) ++ (if l.any (fun x => decide (x.1 > a)) then [(a, b)] else []) ++ (l.dropWhile (fun x => !(decide (x.1 > a)))).filter (fun x => !(x.1 == a)), l.any (fun x => decide (x.1 > a)))
  | [], o => by simp
  | x :: l, o => by
    by_cases h : x.1 > a
    · have hne : x.1 ≠ a := by omega
      have hs : stp a b (o, false) x = (o ++ [(a, b)] ++ [x], true) := by
        unfold stp
        simp [h, hne]
      rw [List.foldl_cons, hs, stp_done]
      simp [List.takeWhile_cons, List.dropWhile_cons, h, hne]
    · have hs : stp a b (o, false) x = (o ++ [x].filter (fun x => !(x.1 == a)), false) := by
        unfold stp
        by_cases h2 : x.1 = a <;> simp [h, h2]
      rw [List.foldl_cons, hs, stp_not a b l]
      have hd : decide (x.1 > a) = false := decide_eq_false h
      rw [List.any_cons, hd, Bool.false_or]
      by_cases h2 : x.1 = a <;> simp [List.takeWhile_cons, List.dropWhile_cons, h, h2]
theorem stp_len (a b : Int) (s : List Sp × Bool) (x : Sp) : (stp a b s x).1.length + (if (stp a b s x).2 then 0 else 1) ≤ s.1.length + 1 + (if s.2 then 0 else 1) := by
  unfold stp
  obtain ⟨o, d⟩ := s
  by_cases h : x.1 > a <;> by_cases h2 : x.1 = a <;> cases d <;> simp [h, h2]
theorem rput_eq {K : Nat} {r : List Int} {n bk : Int} {l : List Sp} {a b : Int} (hl : l.length ≤ 4000) (hK : l.length < K) : charabancref19_put_65.f K r n bk l a b = some (r, n, bk, ptS l a b) := by
  unfold charabancref19_put_65.f
  have := loop0 (fun k (s : List Sp × Bool) t => charabancref19_put_65.l0 K r n bk l a b k s.1 s.2 t) l (stp a b) (fun s => some s) (fun i s => s.1.length + (if s.2 then 0 else 1) ≤ i + 1)
    (fun k s _ => by show charabancref19_put_65.l0 K r n bk l a b (k + 1) s.1 s.2 _ = _; rw [charabancref19_put_65.l0, cond_no (by simp)])
    (fun k s i hi hs => by
      have hsl := stp_len a b s l[i]
      refine ⟨?_, by omega⟩
      have hs' : s.1.length ≤ i + 1 := by omega
      show charabancref19_put_65.l0 K r n bk l a b (k + 1) s.1 s.2 _ = _
      rw [charabancref19_put_65.l0, cond_of (by simp; omega), cond_of (inR_nat hi), wrap_nat (by omega), rdD_nat l hi]
      obtain ⟨o, d⟩ := s
      simp only at hs'
      have m1 : mayBe (o.length + [(a, b)].length) 16 = true := mayBe_of (by simp; omega) (by simp; omega)
      have m2 : ∀ y : Sp, mayBe (o.length + [y].length) 16 = true := fun y => mayBe_of (by simp; omega) (by simp; omega)
      have m3 : ∀ y : Sp, mayBe ((o ++ [(a, b)]).length + [y].length) 16 = true := fun y => mayBe_of (by simp; omega) (by simp; omega)
      unfold stp Let
      by_cases h : l[i].1 > a <;> by_cases h2 : l[i].1 = a <;> cases d <;> simp only [h, h2, m1, m2, m3, decide_true, decide_false, cond_t, cond_f, Bool.not_true, Bool.not_false, bne_self_eq_false, and_true, and_false, true_and, false_and, if_true, if_false, gt_iff_lt, Int.lt_irrefl, Bool.true_eq_false, Bool.false_eq_true]
      all_goals first | rfl | (rw [cond_of (by simpa using h2)]) | skip
      all_goals omega) hK (s := ([], b == 0)) (by simp; split <;> omega)
  erw [this]
  simp only [Option.bind_some]
  unfold ptS
  have hsplit : l.filter (fun x => !(x.1 == a)) = (l.takeWhile (fun x => !(decide (x.1 > a)))).filter (fun x => !(x.1 == a)) ++ (l.dropWhile (fun x => !(decide (x.1 > a)))).filter (fun x => !(x.1 == a)) := by
    rw [← List.filter_append, List.takeWhile_append_dropWhile]
  have hle := List.length_filter_le (fun x : Sp => !(x.1 == a)) l
  by_cases hb : b = 0
  · have hb' : (b == 0) = true := by simpa using hb
    rw [hb', stp_done]
    simp only [Bool.not_true, cond_f, List.nil_append, if_pos hb]
    rw [hsplit]
  · have hb' : (b == 0) = false := by simpa using hb
    rw [hb', stp_not]
    simp only [if_neg hb, List.nil_append]
    cases hany : l.any (fun x => decide (x.1 > a)) with
    | true => simp
    | false =>
      have hall : ∀ x ∈ l, (!(decide (x.1 > a))) = true := by
        rw [List.any_eq_false] at hany
        intro x hx
        simpa using hany x hx
      obtain ⟨h1, h2⟩ := take_all hall
      simp only [h1, h2, Bool.not_false, cond_t, List.filter_nil, List.append_nil, Bool.false_eq_true, if_false]
      rw [cond_of (mayBe_of (by simp; omega) (by simp; omega))]
/-! ### Write, Select, Load -/
/-- Bytes from a place on. -/
def ldS (p : Int) : List Int → Nat → List Sp → List Sp
  | [], _, l => l
  | b :: r, i, l => ldS p r (i + 1) (ptS l (IntKind.wrap .i64 (p + (i : Int))) b)
theorem ldS_length (p : Int) : ∀ (bs : List Int) (i : Nat) (l : List Sp), (ldS p bs i l).length ≤ l.length + bs.length
  | [], i, l => by simp [ldS]
  | b :: r, i, l => by
    have h1 := ldS_length p r (i + 1) (ptS l (IntKind.wrap .i64 (p + (i : Int))) b)
    have h2 := ptS_length l (IntKind.wrap .i64 (p + (i : Int))) b
    simp only [ldS, List.length_cons]
    omega
end Go.Proofs.YtbcepghanbkncaaDoor.Im
