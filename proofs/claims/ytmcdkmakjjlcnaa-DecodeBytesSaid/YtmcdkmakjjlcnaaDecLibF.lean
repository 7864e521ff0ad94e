/- An instruction's bytes. -/
import Derived.Test.YtmcdkmakjjlcnaaDecLibE
set_option linter.unusedVariables false
set_option linter.unusedSimpArgs false
set_option maxHeartbeats 4000000
namespace Go.Proofs.Ytmcdkmakjjlcnaa.Dec
open Go.RowKit Go.Eng
def im (s imm : Int) : List Int := if s = 0 then [] else if s = 1 then [imm % 256] else [imm % 256, imm / 256]
def hp (p : Int) : List Int := if p = 0 then [] else if p = 1 then [203] else if p = 2 then [237] else if p = 3 then [221] else [253]
def Byt (p c d imm : Int) : List Int := hp p ++ [c] ++ (if nr p c = true then [d] else []) ++ im (sz p c) imm
theorem lo_of {imm : Int} (h : 0 ≤ imm ∧ imm ≤ 65535) : IntKind.wrap .u8 imm = imm % 256 := by rw [IntKind.wrap_u8]
theorem lo_of2 {imm : Int} (h : 0 ≤ imm ∧ imm ≤ 65535) : IntKind.wrap .u8 (Int.tmod imm 256) = imm % 256 := by rw [IntKind.wrap_u8, Int.tmod_eq_emod_of_nonneg h.1]; omega
theorem hi_of {imm : Int} (h : 0 ≤ imm ∧ imm ≤ 65535) : IntKind.wrap .u8 (Int.fdiv imm (2 ^ 8)) = imm / 256 := by
  rw [IntKind.wrap_u8, Int.fdiv_eq_ediv_of_nonneg _ (by decide)]
  simp only [show (2 : Int) ^ 8 = 256 from rfl]
  omega
theorem hi_of2 {imm : Int} (h : 0 ≤ imm ∧ imm ≤ 65535) : IntKind.wrap .u8 (IntKind.wrap .u16 (Int.tdiv imm 256)) = imm / 256 := by
  rw [IntKind.wrap_u8, IntKind.wrap_u16, Int.tdiv_eq_ediv_of_nonneg h.1]
  omega
theorem im_cut {s a b : Int} (h0 : 0 ≤ s) (h2 : s ≤ 2) : cutL [a, b] 0 s = if s = 0 then [] else if s = 1 then [a] else [a, b] := by
  have : s = 0 ∨ s = 1 ∨ s = 2 := by omega
  rcases this with rfl | rfl | rfl <;> rfl
theorem dec_bytes {p c d imm : Int} (l k : Int) (hp0 : p = 0 ∨ p = 1 ∨ p = 2 ∨ p = 3 ∨ p = 4) (hc : 0 ≤ c ∧ c ≤ 255) (hi : 0 ≤ imm ∧ imm ≤ 65535) : decode_Bytes_20.f 1000 p c d imm l k = some (Byt p c d imm) := by
  obtain ⟨h1, _, s1, s2⟩ := sz_at (p := p) hc
  have h3 := (nr_at (p := p) hc).1
  unfold decode_Bytes_20.f
  have hh : decode_heads_33.f 1000 p = some (hp p, true) := by rcases hp0 with rfl | rfl | rfl | rfl | rfl <;> rfl
  have hlen : (hp p).length ≤ 1 := by rcases hp0 with rfl | rfl | rfl | rfl | rfl <;> decide
  have e5 : (p == 5) = false := by simp; omega
  have e6 : (p == 6) = false := by simp; omega
  rw [hh]
  simp only [Option.bind_some, Bool.not_true, cond_f, Let, e5, e6]
  rw [cond_of (mayBe_of (by simp; omega) (by simp; omega)), h3]
  simp only [Option.bind_some]
  unfold bits_Lo_34.f bits_Hi_35.f
  rw [lo_of hi, hi_of hi, h1]
  simp only [Option.bind_some]
  have hcl : (cutL [imm % 256, imm / 256] 0 (sz p c)).length ≤ 2 := by
    rw [im_cut s1 s2]
    split
    · simp
    · split <;> simp
  unfold Byt im
  cases hn : nr p c with
  | true =>
    simp only [cond_t, if_true]
    rw [cond_of (mayBe_of (by simp; omega) (by simp; omega)), cond_of (cutR_of (by omega) s1 (by simp; omega)), cond_of (mayBe_of (by simp only [List.length_append, List.length_cons, List.length_nil]; omega) (by simp only [List.length_append, List.length_cons, List.length_nil]; omega)), im_cut s1 s2]
  | false =>
    simp only [cond_f, if_false, Bool.false_eq_true]
    rw [cond_of (cutR_of (by omega) s1 (by simp; omega)), cond_of (mayBe_of (by simp only [List.length_append, List.length_cons, List.length_nil]; omega) (by simp only [List.length_append, List.length_cons, List.length_nil]; omega)), im_cut s1 s2]
    simp
theorem ref_bytes {p c d imm : Int} (l k : Int) (hp0 : p = 0 ∨ p = 1 ∨ p = 2 ∨ p = 3 ∨ p = 4) (hc : 0 ≤ c ∧ c ≤ 255) (hi : 0 ≤ imm ∧ imm ≤ 65535) : charabancref08_Bytes_21.f 1000 p c d imm l k = some (Byt p c d imm) := by
  obtain ⟨_, h1, s1, s2⟩ := sz_at (p := p) hc
  have h3 := (nr_at (p := p) hc).2
  unfold charabancref08_Bytes_21.f
  have hlen : (hp p).length ≤ 1 := by rcases hp0 with rfl | rfl | rfl | rfl | rfl <;> decide
  simp only [Let]
  rw [h3, h1, lo_of2 hi, hi_of2 hi]
  simp only [Option.bind_some]
  have key : ∀ hd : List Int, hd.length ≤ 1 → hd = hp p →
      cond (mayBe (hd.length + ([c] : List Int).length) 1)
        (cond (nr p c) (cond (mayBe ((hd ++ [c]).length + ([d] : List Int).length) 1)
            (cond (decide (sz p c > 0)) (cond (mayBe (((hd ++ [c]) ++ [d]).length + ([imm % 256] : List Int).length) 1)
                (cond (decide (sz p c > 1)) (cond (mayBe ((((hd ++ [c]) ++ [d]) ++ [imm % 256]).length + ([imm / 256] : List Int).length) 1) (some ((((hd ++ [c]) ++ [d]) ++ [imm % 256]) ++ [imm / 256])) none) (some (((hd ++ [c]) ++ [d]) ++ [imm % 256]))) none)
              (cond (decide (sz p c > 1)) (cond (mayBe (((hd ++ [c]) ++ [d]).length + ([imm / 256] : List Int).length) 1) (some (((hd ++ [c]) ++ [d]) ++ [imm / 256])) none) (some ((hd ++ [c]) ++ [d])))) none)
          (cond (decide (sz p c > 0)) (cond (mayBe ((hd ++ [c]).length + ([imm % 256] : List Int).length) 1)
                (cond (decide (sz p c > 1)) (cond (mayBe (((hd ++ [c]) ++ [imm % 256]).length + ([imm / 256] : List Int).length) 1) (some (((hd ++ [c]) ++ [imm % 256]) ++ [imm / 256])) none) (some ((hd ++ [c]) ++ [imm % 256]))) none)
              (cond (decide (sz p c > 1)) (cond (mayBe ((hd ++ [c]).length + ([imm / 256] : List Int).length) 1) (some ((hd ++ [c]) ++ [imm / 256])) none) (some (hd ++ [c]))))) none = some (Byt p c d imm) := by
    intro hd hl hE
    subst hE
    have hs : sz p c = 0 ∨ sz p c = 1 ∨ sz p c = 2 := by omega
    have m1 : ∀ n : Nat, n ≤ 100 → mayBe n 1 = true := fun n hn => mayBe_of (by omega) (by omega)
    unfold Byt im
    rw [m1 _ (by simp; omega)]
    cases nr p c <;> rcases hs with h | h | h <;> rw [h] <;> simp only [cond_t, cond_f, show decide ((0 : Int) > 0) = false from rfl, show decide ((0 : Int) > 1) = false from rfl, show decide ((1 : Int) > 0) = true from rfl, show decide ((1 : Int) > 1) = false from rfl, show decide ((2 : Int) > 0) = true from rfl, show decide ((2 : Int) > 1) = true from rfl] <;> (repeat rw [m1 _ (by simp; omega)]) <;> simp
  rcases hp0 with rfl | rfl | rfl | rfl | rfl
  · exact key [] (by simp) rfl
  · exact key [203] (by simp) rfl
  · exact key [237] (by simp) rfl
  · exact key [221] (by simp) rfl
  · exact key [253] (by simp) rfl
theorem im_len {s imm : Int} (h0 : 0 ≤ s) (h2 : s ≤ 2) : ((im s imm).length : Int) = s := by
  have : s = 0 ∨ s = 1 ∨ s = 2 := by omega
  rcases this with rfl | rfl | rfl <;> rfl
theorem im_by {s imm : Int} (hi : 0 ≤ imm ∧ imm ≤ 65535) : By (im s imm) := fun x hx => by
  unfold im at hx
  split at hx
  · simp at hx
  · split at hx
    · simp at hx; omega
    · simp at hx; omega
theorem immT_im {s imm : Int} (more : List Int) (h0 : 0 ≤ s) (h2 : s ≤ 2) (hi : 0 ≤ imm ∧ imm ≤ 65535) : immT s (im s imm ++ more) = if s = 0 then 0 else if s = 1 then imm % 256 else imm := by
  have : s = 0 ∨ s = 1 ∨ s = 2 := by omega
  rcases this with rfl | rfl | rfl
  · rfl
  · rfl
  · simp [immT, im]; omega
theorem fin_im {p c d n k imm : Int} (more : List Int) (hc : 0 ≤ c ∧ c ≤ 255) (hi : 0 ≤ imm ∧ imm ≤ 65535) : fin p c d n k (im (sz p c) imm ++ more) true = (p, c, d, (if sz p c = 0 then 0 else if sz p c = 1 then imm % 256 else imm), n + sz p c, k, true) := by
  obtain ⟨_, _, s1, s2⟩ := sz_at (p := p) hc
  unfold fin
  have h1 := im_len (imm := imm) s1 s2
  rw [immT_im more s1 s2 hi, if_pos (by simp only [Bool.true_and, decide_eq_true_eq, List.length_append]; omega)]
def planesOk : Bool := (List.range 256).all fun c => (sz 1 c == 0) && (sz 5 c == 0) && (sz 6 c == 0) && !(nr 0 c) && !(nr 1 c) && !(nr 2 c) && nr 5 c && nr 6 c
theorem planes : planesOk = true := by kernel_rfl
theorem plane_at {c : Int} (hc : 0 ≤ c ∧ c ≤ 255) : sz 1 c = 0 ∧ sz 5 c = 0 ∧ sz 6 c = 0 ∧ nr 0 c = false ∧ nr 1 c = false ∧ nr 2 c = false ∧ nr 5 c = true ∧ nr 6 c = true := by
  have h1 := List.all_eq_true.1 planes c.toNat (List.mem_range.2 (by omega))
  rw [show ((c.toNat : Nat) : Int) = c by omega] at h1
  simp only [Bool.and_eq_true, beq_iff_eq, Bool.not_eq_true'] at h1
  obtain ⟨⟨⟨⟨⟨⟨⟨a, b⟩, c⟩, d⟩, e⟩, f⟩, g⟩, h⟩ := h1
  exact ⟨a, b, c, d, e, f, g, h⟩
/-- What an instruction's bytes are read as. -/
def Back (p c d imm : Int) : Res := (p, c, (if nr p c = true then d else 0), (if sz p c = 0 then 0 else if sz p c = 1 then imm % 256 else imm), (if p = 5 ∨ p = 6 then 4 else ((Byt p c d imm).length : Int)), 0, true)
theorem back_low {p c d imm : Int} (more : List Int) (hp0 : p = 0 ∨ p = 1 ∨ p = 2 ∨ p = 3 ∨ p = 4) (hc : 0 ≤ c ∧ c ≤ 255) (hi : 0 ≤ imm ∧ imm ≤ 65535) (hbare : p = 1 ∨ p = 2 ∨ (c ≠ 203 ∧ c ≠ 237 ∧ c ≠ 221 ∧ c ≠ 253)) : Nx (Byt p c d imm ++ more) = Back p c d imm := by
  obtain ⟨q1, q2, q3, q4, q5, q6, q7, q8⟩ := plane_at hc
  have hlen : ((Byt p c d imm).length : Int) = (hp p).length + 1 + (if nr p c = true then 1 else 0) + sz p c := by
    obtain ⟨_, _, s1, s2⟩ := sz_at (p := p) hc
    have := im_len (imm := imm) s1 s2
    unfold Byt
    simp only [List.length_append, List.length_cons, List.length_nil]
    split <;> simp <;> omega
  have hcp : (c ≠ 203 ∧ c ≠ 237 ∧ c ≠ 221 ∧ c ≠ 253) → isP c = false := fun h => by simp [isP, h.2.2.1, h.2.2.2]
  rcases hp0 with rfl | rfl | rfl | rfl | rfl
  · have hb : c ≠ 203 ∧ c ≠ 237 ∧ c ≠ 221 ∧ c ≠ 253 := by rcases hbare with h | h | h; omega; omega; exact h
    have h1 := Nx_of (P := []) (r := Byt 0 c d imm ++ more) (fun _ h => by cases h) (.inr (by simpa [Byt, hp] using hcp hb))
    rw [List.nil_append] at h1
    rw [h1]
    have hB : Byt 0 c d imm ++ more = c :: (im (sz 0 c) imm ++ more) := by simp [Byt, hp, q4]
    rw [hB]
    unfold Bd Back
    have hu : uO (lastP 0 []) c = 1 := by simp [uO, lastP, hb.1, hb.2.1]
    have hpp : pO (lastP 0 []) c = 0 := by simp [pO, lastP, hb.1, hb.2.1]
    have hco : cO (lastP 0 []) c = 0 := by simp [cO, hb.1, hb.2.1]
    have hdo : dO (lastP 0 []) c = false := by simp [dO, lastP, hb.1, hb.2.1]
    have hko : kO ([] : List Int).length (lastP 0 []) c = 0 := by simp only [kO, hb.2.1, if_false]; rfl
    simp only [List.headD_cons, hu, hpp, hco, hdo, hko, List.getD_cons_zero, List.drop_succ_cons, List.drop_zero, if_false, Bool.false_eq_true, List.length_cons]
    rw [decide_eq_true (by omega), fin_im more hc hi, hlen, q4]
    simp [hp]
  · have h1 := Nx_of (P := []) (r := Byt 1 c d imm ++ more) (fun _ h => by cases h) (.inr (by simp [Byt, hp, isP]))
    rw [List.nil_append] at h1
    rw [h1]
    have hB : Byt 1 c d imm ++ more = 203 :: c :: (im (sz 1 c) imm ++ more) := by simp [Byt, hp, q5]
    rw [hB]
    unfold Bd Back
    have hu : uO (lastP 0 []) 203 = 2 := by simp [uO, lastP]
    have hpp : pO (lastP 0 []) 203 = 1 := by simp [pO, lastP]
    have hco : cO (lastP 0 []) 203 = 1 := by simp [cO, lastP]
    have hdo : dO (lastP 0 []) 203 = false := by simp [dO, lastP]
    have hko : kO ([] : List Int).length (lastP 0 []) 203 = 0 := rfl
    simp only [List.headD_cons, hu, hpp, hco, hdo, hko, List.getD_cons_zero, List.getD_cons_succ, List.drop_succ_cons, List.drop_zero, if_false, Bool.false_eq_true, List.length_cons]
    rw [decide_eq_true (by omega), fin_im more hc hi, hlen, q5]
    simp [hp]
  · have h1 := Nx_of (P := []) (r := Byt 2 c d imm ++ more) (fun _ h => by cases h) (.inr (by simp [Byt, hp, isP]))
    rw [List.nil_append] at h1
    rw [h1]
    have hB : Byt 2 c d imm ++ more = 237 :: c :: (im (sz 2 c) imm ++ more) := by simp [Byt, hp, q6]
    rw [hB]
    unfold Bd Back
    have hu : uO (lastP 0 []) 237 = 2 := by simp [uO]
    have hpp : pO (lastP 0 []) 237 = 2 := by simp [pO]
    have hco : cO (lastP 0 []) 237 = 1 := by simp [cO]
    have hdo : dO (lastP 0 []) 237 = false := by simp [dO]
    have hko : kO ([] : List Int).length (lastP 0 []) 237 = 0 := rfl
    simp only [List.headD_cons, hu, hpp, hco, hdo, hko, List.getD_cons_zero, List.getD_cons_succ, List.drop_succ_cons, List.drop_zero, if_false, Bool.false_eq_true, List.length_cons]
    rw [decide_eq_true (by omega), fin_im more hc hi, hlen, q6]
    simp [hp]
  all_goals
    have hb : c ≠ 203 ∧ c ≠ 237 ∧ c ≠ 221 ∧ c ≠ 253 := by rcases hbare with h | h | h; omega; omega; exact h
    have hcc := hcp hb
    have hn4 := nr34 hc
  · have h1 := Nx_of (P := [221]) (r := [c] ++ (if nr 3 c = true then [d] else []) ++ im (sz 3 c) imm ++ more) (fun x h => by simp at h; subst h; rfl) (.inr (by simpa using hcc))
    have hB : Byt 3 c d imm ++ more = [221] ++ ([c] ++ (if nr 3 c = true then [d] else []) ++ im (sz 3 c) imm ++ more) := by simp [Byt, hp]
    rw [hB, h1]
    unfold Bd Back
    have hL : lastP 0 [221] = 221 := rfl
    have hpp : pO 221 c = 3 := by simp [pO, hb.1, hb.2.1]
    have hco : cO 221 c = 0 := by simp [cO, hb.1, hb.2.1]
    have hko : kO 1 221 c = 0 := by simp only [kO, hb.2.1, if_false]; rfl
    rw [hL]
    cases hn : nr 3 c with
    | true =>
      have hu : uO 221 c = 2 := by simp [uO, hb.1, hb.2.1, hn]
      have hdo : dO 221 c = true := by simp [dO, hb.1, hb.2.1, hn]
      simp only [if_true, List.cons_append, List.nil_append, List.headD_cons, hu, hpp, hco, hdo, hko, List.getD_cons_zero, List.getD_cons_succ, List.drop_succ_cons, List.drop_zero, List.length_cons, List.length_nil]
      rw [decide_eq_true (by omega), fin_im more hc hi, hlen, hn]
      simp [hp]
    | false =>
      have hu : uO 221 c = 1 := by simp [uO, hb.1, hb.2.1, hn]
      have hdo : dO 221 c = false := by simp [dO, hb.1, hb.2.1, hn]
      simp only [if_false, Bool.false_eq_true, List.append_nil, List.cons_append, List.nil_append, List.headD_cons, hu, hpp, hco, hdo, hko, List.getD_cons_zero, List.getD_cons_succ, List.drop_succ_cons, List.drop_zero, List.length_cons, List.length_nil]
      rw [decide_eq_true (by omega), fin_im more hc hi, hlen, hn]
      simp [hp]
  · have h1 := Nx_of (P := [253]) (r := [c] ++ (if nr 4 c = true then [d] else []) ++ im (sz 4 c) imm ++ more) (fun x h => by simp at h; subst h; rfl) (.inr (by simpa using hcc))
    have hB : Byt 4 c d imm ++ more = [253] ++ ([c] ++ (if nr 4 c = true then [d] else []) ++ im (sz 4 c) imm ++ more) := by simp [Byt, hp]
    rw [hB, h1]
    unfold Bd Back
    have hL : lastP 0 [253] = 253 := rfl
    have hpp : pO 253 c = 4 := by simp [pO, hb.1, hb.2.1]
    have hco : cO 253 c = 0 := by simp [cO, hb.1, hb.2.1]
    have hko : kO 1 253 c = 0 := by simp only [kO, hb.2.1, if_false]; rfl
    rw [hL]
    cases hn : nr 3 c with
    | true =>
      rw [hn] at hn4
      have hu : uO 253 c = 2 := by simp [uO, hb.1, hb.2.1, hn]
      have hdo : dO 253 c = true := by simp [dO, hb.1, hb.2.1, hn]
      simp only [hn4, if_true, List.cons_append, List.nil_append, List.headD_cons, hu, hpp, hco, hdo, hko, List.getD_cons_zero, List.getD_cons_succ, List.drop_succ_cons, List.drop_zero, List.length_cons, List.length_nil]
      rw [decide_eq_true (by omega), fin_im more hc hi, hlen, hn4]
      simp [hp]
    | false =>
      rw [hn] at hn4
      have hu : uO 253 c = 1 := by simp [uO, hb.1, hb.2.1, hn]
      have hdo : dO 253 c = false := by simp [dO, hb.1, hb.2.1, hn]
      simp only [hn4, if_false, Bool.false_eq_true, List.append_nil, List.cons_append, List.nil_append, List.headD_cons, hu, hpp, hco, hdo, hko, List.getD_cons_zero, List.getD_cons_succ, List.drop_succ_cons, List.drop_zero, List.length_cons, List.length_nil]
      rw [decide_eq_true (by omega), fin_im more hc hi, hlen, hn4]
      simp [hp]
theorem back_high {p c d imm : Int} (more : List Int) (x : Int) (hx : (p = 5 ∧ x = 221) ∨ (p = 6 ∧ x = 253)) (hc : 0 ≤ c ∧ c ≤ 255) (hi : 0 ≤ imm ∧ imm ≤ 65535) : Nx ([x, 203, d, c] ++ more) = Back p c d imm := by
  obtain ⟨q1, q2, q3, q4, q5, q6, q7, q8⟩ := plane_at hc
  have h1 := Nx_of (P := [x]) (r := [203, d, c] ++ more) (fun y h => by simp at h; subst h; rcases hx with ⟨_, rfl⟩ | ⟨_, rfl⟩ <;> rfl) (.inr (by simp [isP]))
  have hB : [x, 203, d, c] ++ more = [x] ++ ([203, d, c] ++ more) := rfl
  rw [hB, h1]
  have hL : lastP 0 [x] = x := by rcases hx with ⟨_, rfl⟩ | ⟨_, rfl⟩ <;> rfl
  rw [hL]
  unfold Bd Back
  have hxn : ¬ x = 0 := by omega
  have hu : uO x 203 = 3 := by simp [uO, hxn]
  have hco : cO x 203 = 2 := by simp [cO, hxn]
  have hdo : dO x 203 = true := by simp [dO, hxn]
  have hko : kO ([x] : List Int).length x 203 = 0 := rfl
  have hpp : pO x 203 = p := by rcases hx with ⟨rfl, rfl⟩ | ⟨rfl, rfl⟩ <;> rfl
  have hs : sz p c = 0 := by rcases hx with ⟨rfl, _⟩ | ⟨rfl, _⟩ <;> assumption
  have hnr : nr p c = true := by rcases hx with ⟨rfl, _⟩ | ⟨rfl, _⟩ <;> assumption
  have hp5 : p = 5 ∨ p = 6 := by rcases hx with ⟨h, _⟩ | ⟨h, _⟩ <;> simp [h]
  simp only [if_true, List.cons_append, List.nil_append, List.headD_cons, hu, hpp, hco, hdo, hko, List.getD_cons_zero, List.getD_cons_succ, List.drop_succ_cons, List.drop_zero, List.length_cons, List.length_nil]
  rw [decide_eq_true (by omega)]
  unfold fin
  rw [hs, if_pos (by simp), hnr, if_pos hp5]
  rfl
end Go.Proofs.Ytmcdkmakjjlcnaa.Dec
