/- The instruction that bytes begin with: the program's telling, and the document's. -/
import Derived.Test.YtbcepghanbkncaaGreatDoorLiTDcLibB
set_option linter.unusedVariables false
set_option linter.unusedSimpArgs false
set_option maxHeartbeats 4000000
namespace Go.Proofs.YtbcepghanbkncaaGreatDoor.LiT.Dc
open Go.RowKit Go.Eng
theorem dec_next (b : List Int) (hb : By b) (hl : b.length ≤ 900) : decode_Next_77.f 1000 b = some (Nx b) := by
  have hcn := cnt_le b
  have hr : By (restP b) := by rw [rest_eq]; exact hb.drop _
  have h0 := hr.head
  have h1 := hr.tail.head
  have h2 := hr.tail.tail.head
  have hL := last_in b 0
  unfold decode_Next_77.f
  rw [dec_l0 b b 1000 0 0 0 (by omega) (by omega) (by omega) (by omega) (by omega)]
  simp only [read1, read2, read3]
  simp only [Let, Option.bind_some]
  unfold Nx
  simp (disch := omega) only [wrap_add, (nr_at h0).1, Option.bind_some, Int.zero_add]
  have hn : cntP b ≤ 900 := by omega
  clear hcn hl hb
  generalize restP b = r at *
  generalize lastP 0 b = L at *
  generalize cntP b = n at *
  by_cases c1 : r.headD 0 = 237
  · rw [if_pos c1, cond_of (by simpa using c1)]
    rcases hL with ⟨rfl, h3⟩ | ⟨h3, rfl | rfl⟩
    · simp only [bne_self_eq_false, cond_f, if_true, show ((0 : Int) == 253) = false from rfl]
      exact dec_tail h1 hr.tail.tail (by omega)
    · simp only [show ((221 : Int) != 0) = true from rfl, show ((221 : Int) == 253) = false from rfl, cond_t, cond_f]
      rw [if_neg (by decide)]
      exact dec_tail h1 hr.tail.tail (by omega)
    · simp only [show ((253 : Int) != 0) = true from rfl, show ((253 : Int) == 253) = true from rfl, bne_self_eq_false, cond_t, cond_f]
      rw [if_neg (by decide)]
      exact dec_tail h1 hr.tail.tail (by omega)
  rw [if_neg c1, cond_no (by simpa using c1)]
  by_cases c2 : r.headD 0 = 203
  · rw [if_pos c2, cond_of (by simpa using c2)]
    rcases hL with ⟨rfl, h3⟩ | ⟨h3, rfl | rfl⟩
    · simp only [bne_self_eq_false, cond_f, cond_t, if_true, show ((0 : Int) == 253) = false from rfl, c2, beq_self_eq_true]
      exact dec_tail h1 hr.tail.tail (by omega)
    · simp only [show ((221 : Int) != 0) = true from rfl, show ((221 : Int) == 253) = false from rfl, cond_t, cond_f, c2]
      rw [if_neg (by decide), if_neg (by decide)]
      exact dec_tail h2 hr.tail.tail.tail (by omega)
    · simp only [show ((253 : Int) != 0) = true from rfl, show ((253 : Int) == 253) = true from rfl, show ((5 : Int) != 2) = true from rfl, cond_t, cond_f, c2]
      rw [if_neg (by decide)]
      simp only [if_true]
      exact dec_tail h2 hr.tail.tail.tail (by omega)
  rw [if_neg c2, cond_no (by simpa using c2)]
  rcases hL with ⟨rfl, h3⟩ | ⟨h3, rfl | rfl⟩
  · simp only [bne_self_eq_false, cond_f, cond_t, if_true, show ((0 : Int) == 253) = false from rfl, show (r.headD 0 == 203) = false by simpa using c2]
    exact dec_tail h0 hr.tail (by omega)
  · simp only [show ((221 : Int) != 0) = true from rfl, show ((221 : Int) == 253) = false from rfl, cond_t, cond_f, show (r.headD 0 == 203) = false by simpa using c2]
    rw [if_neg (by decide)]
    cases hnr : nr 3 (r.headD 0) with
    | true => simp only [cond_t, if_true]; rw [if_neg (by decide)]; exact dec_tail h0 hr.tail.tail (by omega)
    | false => simp only [cond_f, if_false, Bool.false_eq_true]; rw [if_neg (by decide)]; exact dec_tail h0 hr.tail (by omega)
  · simp only [show ((253 : Int) != 0) = true from rfl, show ((253 : Int) == 253) = true from rfl, show ((3 : Int) != 2) = true from rfl, cond_t, cond_f, show (r.headD 0 == 203) = false by simpa using c2]
    rw [if_neg (by decide)]
    cases hnr : nr 3 (r.headD 0) with
    | true => simp only [cond_t, if_true]; exact dec_tail h0 hr.tail.tail (by omega)
    | false => simp only [cond_f, if_false, Bool.false_eq_true]; exact dec_tail h0 hr.tail (by omega)
theorem at_eq (b : List Int) (i : Nat) : charabancref08_at_81.f 1000 b (i : Int) = some ((b.drop i).headD 0) := by
  unfold charabancref08_at_81.f
  by_cases h : i < b.length
  · rw [cond_of (by simpa using h), cond_of (inR_nat h), rdD_nat b h, drop_at h]; rfl
  · rw [cond_no (by simpa using h), List.drop_of_length_le (by omega)]; rfl
theorem ref_l0 (b : List Int) (hl : b.length ≤ 900) : ∀ (t : List Int) (k i : Nat) (pf : Int) (s : Int), b.drop i = t → i ≤ b.length → t.length < k → 0 ≤ s → s + t.length ≤ 100000 →
    charabancref08_Next_53.l0 1000 b k (i : Int) pf s = some (((i + cntP t : Nat) : Int), lastP pf t, if i = 0 then s + ((cntP t - 1 : Nat) : Int) else s + (cntP t : Int))
  | [], k, i, pf, s, ht, hi, hk, hs, hs2 => by
    obtain ⟨k, rfl⟩ : ∃ j, k = j + 1 := ⟨k - 1, by simp at hk; omega⟩
    rw [charabancref08_Next_53.l0, at_eq, ht]
    simp [Let, cntP, lastP]
  | x :: t, k, i, pf, s, ht, hi, hk, hs, hs2 => by
    obtain ⟨k, rfl⟩ : ∃ j, k = j + 1 := ⟨k - 1, by simp at hk; omega⟩
    have hlt : i < b.length := by
      rcases Nat.lt_or_ge i b.length with h | h
      · exact h
      · rw [List.drop_of_length_le h] at ht; cases ht
    have hx : b[i] = x := by rw [drop_at hlt] at ht; exact (List.cons.inj ht).1
    have ht2 : b.drop (i + 1) = t := by rw [drop_at hlt] at ht; exact (List.cons.inj ht).2
    have hlen : t.length + i + 1 = b.length := by have := congrArg List.length ht; simp at this; omega
    rw [charabancref08_Next_53.l0, at_eq, ht]
    simp only [Let, Option.bind_some, List.headD_cons]
    rw [cond_of (c := inR (i : Int) b.length) (inR_nat hlt), rdD_nat b hlt, hx, cond_of (c := inR (i : Int) b.length) (inR_nat hlt), wrap_nat (by omega), wrap_add hs (by simp at hs2; omega) (by omega) (by omega)]
    by_cases hp : isP x = true
    · have hp' : x = 221 ∨ x = 253 := by simpa [isP] using hp
      simp only [cntP, lastP, hp, if_true]
      by_cases h0 : i = 0
      · subst h0
        have ih := ref_l0 b hl t k 1 x s ht2 (by omega) (by simp at hk; omega) hs (by simp at hs2; omega)
        have e1 : ((1 + cntP t : Nat) : Int) = ((0 + (cntP t + 1) : Nat) : Int) := by omega
        rw [e1] at ih
        rcases hp' with rfl | rfl
        · simp
          simpa using ih
        · simp
          simpa using ih
      · have ih := ref_l0 b hl t k (i + 1) x (s + 1) ht2 (by omega) (by simp at hk; omega) (by omega) (by simp at hs2; omega)
        have hi0 : decide ((i : Int) > 0) = true := by simp; omega
        rw [hi0]
        simp only [h0, if_false, Nat.succ_ne_zero, cond_t] at ih ⊢
        have e1 : ((i + 1 + cntP t : Nat) : Int) = ((i + (cntP t + 1) : Nat) : Int) := by omega
        have e2 : s + 1 + (cntP t : Int) = s + ((cntP t + 1 : Nat) : Int) := by omega
        rw [e1, e2] at ih
        rcases hp' with rfl | rfl
        · simpa using ih
        · simpa using ih
    · have hp' : isP x = false := by simpa using hp
      simp only [isP, Bool.or_eq_false_iff] at hp'
      rw [cond_no hp'.1, hp'.2]
      simp [cntP, lastP, hp]
theorem at_plus {b r : List Int} {n : Nat} (hr : r = b.drop n) (j : Nat) : charabancref08_at_81.f 1000 b ((n : Int) + (j : Int)) = some ((r.drop j).headD 0) := by
  subst hr
  rw [show (n : Int) + (j : Int) = ((n + j : Nat) : Int) by omega, at_eq, List.drop_drop]
theorem ref_tail {p c d skip : Int} {b r t : List Int} {n j : Nat} {fl : Bool} (hr : r = b.drop n) (hn : n ≤ b.length) (hl : b.length ≤ 900) (hj : j ≤ 10) (hb : By b) (hc : 0 ≤ c ∧ c ≤ 255) (ht : t = r.drop j) (hf : fl = decide (j ≤ r.length)) {u : Int} (hu : u = (n : Int) + (j : Int)) :
    ((charabancref08_Size_84.f 1000 p c).bind fun s => cond (decide (s > 0)) ((charabancref08_at_81.f 1000 b u).bind fun x =>
        cond (decide (s > 1)) ((charabancref08_at_81.f 1000 b (IntKind.wrap .i64 (u + 1))).bind fun y => cond (decide ((IntKind.wrap .i64 (u + s)) > (b.length : Int))) (some ((0, 0, 0, 0, 0, 0, false) : Res)) (some (p, c, d, IntKind.wrap .u16 (IntKind.wrap .u16 x + (IntKind.wrap .u16 (256 * (IntKind.wrap .u16 y)))), IntKind.wrap .i64 (u + s), skip, true)))
          (cond (decide ((IntKind.wrap .i64 (u + s)) > (b.length : Int))) (some (0, 0, 0, 0, 0, 0, false)) (some (p, c, d, IntKind.wrap .u16 x, IntKind.wrap .i64 (u + s), skip, true))))
      (cond (decide (s > 1)) ((charabancref08_at_81.f 1000 b (IntKind.wrap .i64 (u + 1))).bind fun y => cond (decide ((IntKind.wrap .i64 (u + s)) > (b.length : Int))) (some (0, 0, 0, 0, 0, 0, false)) (some (p, c, d, IntKind.wrap .u16 (0 + (IntKind.wrap .u16 (256 * (IntKind.wrap .u16 y)))), IntKind.wrap .i64 (u + s), skip, true)))
        (cond (decide ((IntKind.wrap .i64 (u + s)) > (b.length : Int))) (some (0, 0, 0, 0, 0, 0, false)) (some (p, c, d, 0, IntKind.wrap .i64 (u + s), skip, true))))) = some (fin p c d u skip t fl) := by
  obtain ⟨_, h2, h3, h4⟩ := sz_at (p := p) hc
  have hlr : r.length + n = b.length := by rw [hr]; simp; omega
  have hbr : By r := by rw [hr]; exact hb.drop n
  have hbt : By t := by rw [ht]; exact hbr.drop j
  have hh := hbt.head
  have hh2 := hbt.tail.head
  have hlt : t.length = r.length - j := by rw [ht]; simp
  subst hu
  have hw : ∀ s : Int, 0 ≤ s → s ≤ 2 → IntKind.wrap .i64 ((n : Int) + (j : Int) + s) = (n : Int) + (j : Int) + s := fun s h5 h6 => wrap_i64 (by omega) (by omega)
  have ha := at_plus hr j
  have ha1 : charabancref08_at_81.f 1000 b ((n : Int) + (j : Int) + 1) = some (t.tail.headD 0) := by
    have := at_plus hr (j + 1)
    rw [show (n : Int) + ((j + 1 : Nat) : Int) = (n : Int) + (j : Int) + 1 by omega] at this
    rw [this, ht, List.tail_drop]
  rw [← ht] at ha
  rw [h2, Option.bind_some, hw _ h3 h4, ha, hw 1 (by omega) (by omega), ha1]
  unfold fin immT
  have : sz p c = 0 ∨ sz p c = 1 ∨ sz p c = 2 := by omega
  have hfl : (fl && decide (sz p c ≤ (t.length : Int))) = !(decide ((n : Int) + (j : Int) + sz p c > (b.length : Int))) := by
    rw [hf]
    by_cases hjr : j ≤ r.length
    · rw [decide_eq_true hjr, Bool.true_and, ← decide_not]
      congr 1
      apply propext
      constructor <;> intro <;> omega
    · rw [decide_eq_false hjr, Bool.false_and, decide_eq_true (by omega)]; rfl
  rw [hfl]
  simp only [Option.bind_some, wrap_u16 (x := t.headD 0) (by omega), wrap_u16 (x := t.tail.headD 0) (by omega), wrap_u16 (x := 256 * t.tail.headD 0) (by omega), wrap_u16 (x := t.headD 0 + 256 * t.tail.headD 0) (by omega)]
  cases hd : decide ((n : Int) + (j : Int) + sz p c > (b.length : Int)) <;> rcases this with h | h | h <;> simp [h]
theorem fl1 (r : List Int) : (!r.isEmpty) = decide (1 ≤ r.length) := by cases r <;> simp
theorem fl2 (r : List Int) : (!r.isEmpty && !r.tail.isEmpty) = decide (2 ≤ r.length) := by rcases r with _ | ⟨x, _ | ⟨y, r⟩⟩ <;> simp
theorem fl3 (r : List Int) : (!r.isEmpty && !r.tail.isEmpty && !r.tail.tail.isEmpty) = decide (3 ≤ r.length) := by rcases r with _ | ⟨x, _ | ⟨y, _ | ⟨z, r⟩⟩⟩ <;> simp
theorem ref_next (b : List Int) (hb : By b) (hl : b.length ≤ 900) : charabancref08_Next_53.f 1000 b = some (Nx b) := by
  have hcn := cnt_le b
  have hr0 : restP b = b.drop (cntP b) := rest_eq b
  have hr : By (restP b) := by rw [rest_eq]; exact hb.drop _
  have h0 := hr.head
  have h1 := hr.tail.head
  have h2 := hr.tail.tail.head
  have hL := last_in b 0
  have hl0 := ref_l0 b hl b 1000 0 0 0 rfl (by omega) (by omega) (by omega) (by omega)
  have hsk : ((cntP b - 1 : Nat) : Int) = max 0 ((cntP b : Int) - 1) := by omega
  rw [show ((0 : Nat) : Int) = 0 from rfl, if_pos rfl, Nat.zero_add, Int.zero_add, hsk] at hl0
  unfold charabancref08_Next_53.f
  rw [hl0]
  simp only [Option.bind_some, Let]
  unfold Nx
  have d2 : (restP b).drop 2 = (restP b).tail.tail := by rw [← List.drop_one, ← List.drop_one, List.drop_drop]
  have d3 : (restP b).drop 3 = (restP b).tail.tail.tail := by rw [← List.drop_one, ← List.drop_one, ← List.drop_one, List.drop_drop, List.drop_drop]
  have a0 := at_plus hr0 0
  have a1 := at_plus hr0 1
  have a2 := at_plus hr0 2
  simp only [Int.ofNat_zero, Int.add_zero, List.drop_zero] at a0
  rw [show ((1 : Nat) : Int) = 1 from rfl, List.drop_one] at a1
  rw [show ((2 : Nat) : Int) = 2 from rfl, d2] at a2
  have w1 : IntKind.wrap .i64 ((cntP b : Int) + 1) = (cntP b : Int) + 1 := wrap_i64 (by omega) (by omega)
  have w2 : IntKind.wrap .i64 ((cntP b : Int) + 2) = (cntP b : Int) + 2 := wrap_i64 (by omega) (by omega)
  have w3 : IntKind.wrap .i64 ((cntP b : Int) + 3) = (cntP b : Int) + 3 := wrap_i64 (by omega) (by omega)
  have w11 : IntKind.wrap .i64 ((cntP b : Int) + 1 + 1) = (cntP b : Int) + 2 := by rw [wrap_i64 (by omega) (by omega)]; omega
  have ws : IntKind.wrap .i64 (max 0 ((cntP b : Int) - 1) + 1) = max 0 ((cntP b : Int) - 1) + 1 := wrap_i64 (by omega) (by omega)
  have t1 := fun (p c d skip : Int) (hc : 0 ≤ c ∧ c ≤ 255) => ref_tail (p := p) (d := d) (skip := skip) (j := 1) hr0 hcn hl (by omega) hb hc rfl (fl1 _) rfl
  have t2 := fun (p c d skip : Int) (hc : 0 ≤ c ∧ c ≤ 255) => ref_tail (p := p) (d := d) (skip := skip) (j := 2) hr0 hcn hl (by omega) hb hc rfl (fl2 _) rfl
  have t3 := fun (p c d skip : Int) (hc : 0 ≤ c ∧ c ≤ 255) => ref_tail (p := p) (d := d) (skip := skip) (j := 3) hr0 hcn hl (by omega) hb hc rfl (fl3 _) rfl
  rw [List.drop_one, show ((1 : Nat) : Int) = 1 from rfl] at t1
  rw [d2, show ((2 : Nat) : Int) = 2 from rfl] at t2
  rw [d3, show ((3 : Nat) : Int) = 3 from rfl] at t3
  have nn3 := (nr_at (p := 3) h0).2
  have nn4 := (nr_at (p := 4) h0).2
  have nn0 := (nr_at (p := 0) h0).2
  have n0 : nr 0 ((restP b).headD 0) = false := by
    unfold nr
    obtain ⟨u, v⟩ := field_at h0
    simp [charabancref08_Near_83.f, charabancref08_Fields_27.f, Let]
  rw [nr34 h0] at nn4
  rw [n0] at nn0
  rw [a0]
  clear hl0 hsk hr0
  generalize restP b = r at *
  generalize lastP 0 b = L at *
  generalize cntP b = n at *
  simp only [Option.bind_some]
  unfold charabancref08_plane_82.f
  simp only [Let]
  by_cases c1 : r.headD 0 = 237
  · simp only [c1, show ((237 : Int) == 237) = true from rfl, cond_t, Option.bind_some, beq_self_eq_true]
    simp only [show ((2 : Int) == 5) = false from rfl, show ((2 : Int) == 6) = false from rfl, show ((2 : Int) == 1) = false from rfl, beq_self_eq_true, cond_t, cond_f, if_true]
    rw [w1, a1, w2]
    rcases hL with ⟨rfl, h3⟩ | ⟨h3, h4⟩
    · subst h3
      simp only [Option.bind_some, show decide (((0 : Nat) : Int) > 0) = false from rfl, cond_f, if_true]
      exact t2 _ _ _ _ h1
    · rw [decide_eq_true (show (n : Int) > 0 by omega), if_neg (by omega), ws]
      simp only [Option.bind_some, cond_t]
      exact t2 _ _ _ _ h1
  rw [if_neg c1]
  simp only [show (r.headD 0 == 237) = false by simpa using c1, cond_f]
  by_cases c2 : r.headD 0 = 203
  · rw [if_pos c2]
    simp only [c2, beq_self_eq_true, cond_t]
    rcases hL with ⟨rfl, h3⟩ | ⟨h3, rfl | rfl⟩
    · simp only [show ((0 : Int) == 221) = false from rfl, show ((0 : Int) == 253) = false from rfl, cond_f, Option.bind_some, show ((1 : Int) == 2) = false from rfl, show ((1 : Int) == 5) = false from rfl, show ((1 : Int) == 6) = false from rfl, beq_self_eq_true, cond_t, if_true]
      rw [w1, a1, w2]
      simp only [Option.bind_some]
      exact t2 _ _ _ _ h1
    · simp only [beq_self_eq_true, cond_t, Option.bind_some, show ((5 : Int) == 2) = false from rfl, cond_f]
      rw [if_neg (by decide), if_neg (by decide), w1, w2, w3, a1, a2]
      simp only [Option.bind_some]
      exact t3 _ _ _ _ h2
    · simp only [show ((253 : Int) == 221) = false from rfl, beq_self_eq_true, cond_t, Option.bind_some, show ((6 : Int) == 2) = false from rfl, show ((6 : Int) == 5) = false from rfl, cond_f]
      rw [if_neg (by decide), w1, w2, w3, a1, a2]
      simp only [Option.bind_some, if_true]
      exact t3 _ _ _ _ h2
  rw [if_neg c2]
  simp only [show (r.headD 0 == 203) = false by simpa using c2, cond_f]
  rcases hL with ⟨rfl, h3⟩ | ⟨h3, rfl | rfl⟩
  · simp only [show ((0 : Int) == 221) = false from rfl, show ((0 : Int) == 253) = false from rfl, cond_f, Option.bind_some, show ((0 : Int) == 2) = false from rfl, show ((0 : Int) == 5) = false from rfl, show ((0 : Int) == 6) = false from rfl, show ((0 : Int) == 1) = false from rfl, if_true]
    rw [nn0]
    simp only [Option.bind_some, cond_f]
    rw [w1]
    exact t1 _ _ _ _ h0
  · simp only [beq_self_eq_true, cond_t, Option.bind_some, show ((3 : Int) == 2) = false from rfl, show ((3 : Int) == 5) = false from rfl, show ((3 : Int) == 6) = false from rfl, show ((3 : Int) == 1) = false from rfl, cond_f]
    rw [if_neg (show ¬ (221 : Int) = 0 by decide)]
    rw [nn3]
    simp only [Option.bind_some]
    cases hnr : nr 3 (r.headD 0) with
    | true =>
      simp only [cond_t, if_true]
      rw [if_neg (show ¬ (221 : Int) = 253 by decide), w1, a1, w11]
      simp only [Option.bind_some]
      exact t2 _ _ _ _ h0
    | false =>
      simp only [cond_f, if_false, Bool.false_eq_true]
      rw [if_neg (show ¬ (221 : Int) = 253 by decide), w1]
      exact t1 _ _ _ _ h0
  · simp only [show ((253 : Int) == 221) = false from rfl, beq_self_eq_true, cond_t, Option.bind_some, show ((4 : Int) == 2) = false from rfl, show ((4 : Int) == 5) = false from rfl, show ((4 : Int) == 6) = false from rfl, show ((4 : Int) == 1) = false from rfl, cond_f]
    rw [if_neg (by decide)]
    rw [nn4]
    simp only [Option.bind_some, if_true]
    cases hnr : nr 3 (r.headD 0) with
    | true =>
      simp only [cond_t, if_true]
      rw [w1, a1, w11]
      simp only [Option.bind_some]
      exact t2 _ _ _ _ h0
    | false =>
      simp only [cond_f, if_false, Bool.false_eq_true]
      rw [w1]
      exact t1 _ _ _ _ h0
end Go.Proofs.YtbcepghanbkncaaGreatDoor.LiT.Dc
