/- The plain law of DecodeBytes. -/
import Derived.Test.YtmcdkmakjjlcnaaDecDecodeBytes
import Derived.Test.YtmcdkmakjjlcnaaDecLibF
namespace Go.Proofs.Ytmcdkmakjjlcnaa.Pure
open Go.RowKit Go.Eng Go.Proofs.Ytmcdkmakjjlcnaa.Dec
theorem DecodeBytes (a0 : Int × Int × Int × Int × Int × Int) (a1 : List Int) (w0 : ((Lit.int .i64 a0.1).wf = true ∧ ((Lit.int .u8 a0.2.1).wf = true ∧ ((Lit.int .u8 a0.2.2.1).wf = true ∧ ((Lit.int .u16 a0.2.2.2.1).wf = true ∧ ((Lit.int .i64 a0.2.2.2.2.1).wf = true ∧ (Lit.int .i64 a0.2.2.2.2.2).wf = true)))))) (w1 : (a1.length * 1 ≤ 140737488351232 ∧ ∀ x ∈ a1, (Lit.int .u8 x).wf = true)) : ∃ K, charabanclaw08_DecodeBytes_5.f K a0.1 a0.2.1 a0.2.2.1 a0.2.2.2.1 a0.2.2.2.2.1 a0.2.2.2.2.2 a1 = some true := by
  obtain ⟨p, c, d, imm, l, k⟩ := a0
  obtain ⟨_, wc, wd, wi, _, _⟩ := w0
  have hc : 0 ≤ c ∧ c ≤ 255 := u8_of wc
  have hd : 0 ≤ d ∧ d ≤ 255 := u8_of wd
  have hi : 0 ≤ imm ∧ imm ≤ 65535 := u16_of wi
  have hm : By a1 := fun x hx => u8_of (w1.2 x hx)
  refine ⟨1000, ?_⟩
  unfold charabanclaw08_DecodeBytes_5.f
  rw [awake_eq]
  simp only [Option.bind_some, Bool.not_true, cond_f]
  by_cases hl : a1.length > 100
  · rw [cond_of (by simp; omega)]
  rw [cond_no (by simp; omega)]
  obtain ⟨g1, _, s1, s2⟩ := sz_at (p := p) hc
  have g2 := (nr_at (p := p) hc).1
  have fin2 : ∀ (B : List Int), B.length ≤ 100 → By B → Nx (B ++ a1) = Back p c d imm → (p = 5 ∨ p = 6 → B.length = 4) → (¬ (p = 5 ∨ p = 6) → B = Byt p c d imm) → (cond (mayBe (([] : List Int).length + B.length) 1) (cond (mayBe ((([] : List Int) ++ B).length + a1.length) 1) ((decode_Next_15.f 1000 ((([] : List Int) ++ B) ++ a1)).bind fun yt55 => (decode_Near_13.f 1000 p c).bind fun t74 => (decode_Size_11.f 1000 p c).bind fun t79 => cond yt55.2.2.2.2.2.2 (cond (yt55.1 == p) (cond (yt55.2.1 == c) (cond (yt55.2.2.2.2.1 == (B.length : Int)) (cond (yt55.2.2.2.2.2.1 == 0) (cond (!t74) (cond t74 (cond (t79 != 2) (cond (t79 != 1) (cond (t79 != 0) (some true) (some (yt55.2.2.2.1 == 0))) (cond (yt55.2.2.2.1 == (Int.tmod imm 256)) (cond (t79 != 0) (some true) (some (yt55.2.2.2.1 == 0))) (some false))) (cond (yt55.2.2.2.1 == imm) (cond (t79 != 1) (cond (t79 != 0) (some true) (some (yt55.2.2.2.1 == 0))) (cond (yt55.2.2.2.1 == (Int.tmod imm 256)) (cond (t79 != 0) (some true) (some (yt55.2.2.2.1 == 0))) (some false))) (some false))) (cond (yt55.2.2.1 == 0) (cond (t79 != 2) (cond (t79 != 1) (cond (t79 != 0) (some true) (some (yt55.2.2.2.1 == 0))) (cond (yt55.2.2.2.1 == (Int.tmod imm 256)) (cond (t79 != 0) (some true) (some (yt55.2.2.2.1 == 0))) (some false))) (cond (yt55.2.2.2.1 == imm) (cond (t79 != 1) (cond (t79 != 0) (some true) (some (yt55.2.2.2.1 == 0))) (cond (yt55.2.2.2.1 == (Int.tmod imm 256)) (cond (t79 != 0) (some true) (some (yt55.2.2.2.1 == 0))) (some false))) (some false))) (some false))) (cond (yt55.2.2.1 == d) (cond t74 (cond (t79 != 2) (cond (t79 != 1) (cond (t79 != 0) (some true) (some (yt55.2.2.2.1 == 0))) (cond (yt55.2.2.2.1 == (Int.tmod imm 256)) (cond (t79 != 0) (some true) (some (yt55.2.2.2.1 == 0))) (some false))) (cond (yt55.2.2.2.1 == imm) (cond (t79 != 1) (cond (t79 != 0) (some true) (some (yt55.2.2.2.1 == 0))) (cond (yt55.2.2.2.1 == (Int.tmod imm 256)) (cond (t79 != 0) (some true) (some (yt55.2.2.2.1 == 0))) (some false))) (some false))) (cond (yt55.2.2.1 == 0) (cond (t79 != 2) (cond (t79 != 1) (cond (t79 != 0) (some true) (some (yt55.2.2.2.1 == 0))) (cond (yt55.2.2.2.1 == (Int.tmod imm 256)) (cond (t79 != 0) (some true) (some (yt55.2.2.2.1 == 0))) (some false))) (cond (yt55.2.2.2.1 == imm) (cond (t79 != 1) (cond (t79 != 0) (some true) (some (yt55.2.2.2.1 == 0))) (cond (yt55.2.2.2.1 == (Int.tmod imm 256)) (cond (t79 != 0) (some true) (some (yt55.2.2.2.1 == 0))) (some false))) (some false))) (some false))) (some false))) (some false)) (some false)) (some false)) (some false)) (some false)) none) none) = some true := by
    intro B hB hby hN h4 hE
    have hbb : By (B ++ a1) := fun x hx => by
      rcases List.mem_append.1 hx with h | h
      · exact hby x h
      · exact hm x h
    have htm : Int.tmod imm 256 = imm % 256 := by rw [Int.tmod_eq_emod_of_nonneg hi.1]
    rw [List.nil_append, cond_of (mayBe_of (by (try simp); omega) (by (try simp); omega)), cond_of (mayBe_of (by (try simp); omega) (by (try simp); omega)), dec_next _ hbb (by simp; omega), hN, g1, g2, htm]
    simp only [Option.bind_some]
    unfold Back
    have hlen : (if p = 5 ∨ p = 6 then (4 : Int) else ((Byt p c d imm).length : Int)) = (B.length : Int) := by
      by_cases h : p = 5 ∨ p = 6
      · rw [if_pos h, h4 h]; rfl
      · rw [if_neg h, hE h]
    have hs : sz p c = 0 ∨ sz p c = 1 ∨ sz p c = 2 := by omega
    rw [hlen]
    cases nr p c <;> rcases hs with h | h | h <;> rw [h] <;> simp
  by_cases hlow : p = 0 ∨ p = 1 ∨ p = 2 ∨ p = 3 ∨ p = 4
  · rw [dec_bytes l k hlow hc hi, ref_bytes l k hlow hc hi]
    simp only [Option.bind_some, beq_self_eq_true, Bool.not_true, cond_f]
    unfold charabancref08_Bare_22.f
    simp only [Let]
    have hlen : (Byt p c d imm).length ≤ 100 := by
      have := im_len (imm := imm) s1 s2
      unfold Byt hp
      simp only [List.length_append]
      rcases hlow with rfl | rfl | rfl | rfl | rfl <;> simp <;> split <;> simp <;> omega
    have hby : By (Byt p c d imm) := fun x hx => by
      unfold Byt at hx
      rcases List.mem_append.1 hx with h | h
      · rcases List.mem_append.1 h with h | h
        · rcases List.mem_append.1 h with h | h
          · rcases hlow with rfl | rfl | rfl | rfl | rfl <;> simp [hp] at h <;> omega
          · simp at h; omega
        · split at h
          · simp at h; omega
          · simp at h
      · exact im_by hi x h
    have h56 : ¬ (p = 5 ∨ p = 6) := by omega
    by_cases hb : p = 1 ∨ p = 2
    · have e0 : (p == 0) = false := by simp; omega
      have e3 : (p == 3) = false := by simp; omega
      have e4 : (p == 4) = false := by simp; omega
      rw [e0, e3, e4]
      simp only [cond_f, cond_t]
      rw [decide_eq_true (show p ≥ 0 by omega), decide_eq_true (show p ≤ 6 by omega)]
      simp only [cond_t, Option.bind_some, Bool.not_true, cond_f]
      exact fin2 _ hlen hby (back_low a1 hlow hc hi (by omega)) (fun h => absurd h h56) (fun _ => rfl)
    · have hpz : cond (p == 0) true (cond (p == 3) true (p == 4)) = true := by
        have : p = 0 ∨ p = 3 ∨ p = 4 := by omega
        rcases this with rfl | rfl | rfl <;> rfl
      have hj : ∀ {α : Type} (J : Bool → α), cond (p == 0) (J true) (cond (p == 3) (J true) (J (p == 4))) = J true := fun J => by
        have : p = 0 ∨ p = 3 ∨ p = 4 := by omega
        rcases this with rfl | rfl | rfl <;> rfl
      by_cases hbare : c ≠ 203 ∧ c ≠ 237 ∧ c ≠ 221 ∧ c ≠ 253
      · have b1 : (c != 203) = true := by simpa using hbare.1
        have b2 : (c != 237) = true := by simpa using hbare.2.1
        have b3 : (c != 221) = true := by simpa using hbare.2.2.1
        have b4 : (c != 253) = true := by simpa using hbare.2.2.2
        rw [b1, b2, b3, b4]
        have hp3 : p = 0 ∨ p = 3 ∨ p = 4 := by omega
        have hbr : cond (p == 0) (cond true (cond true (cond true (cond true (some true) (some false)) (some false)) (some false)) (cond (decide (p ≥ 0)) (some (decide (p ≤ 6))) (some false))) (cond (p == 3) (cond true (cond true (cond true (cond true (some true) (some false)) (some false)) (some false)) (cond (decide (p ≥ 0)) (some (decide (p ≤ 6))) (some false))) (cond (p == 4) (cond true (cond true (cond true (some true) (some false)) (some false)) (some false)) (cond (decide (p ≥ 0)) (some (decide (p ≤ 6))) (some false)))) = some true := by
          rcases hp3 with rfl | rfl | rfl <;> rfl
        have hgo := fin2 _ hlen hby (back_low a1 hlow hc hi (.inr (.inr hbare))) (fun h => absurd h h56) (fun _ => rfl)
        rcases hp3 with rfl | rfl | rfl
        · simp only [beq_self_eq_true, cond_t, Option.bind_some, Bool.not_true, cond_f]
          exact hgo
        · simp only [show ((3 : Int) == 0) = false from rfl, beq_self_eq_true, cond_t, Option.bind_some, Bool.not_true, cond_f]
          exact hgo
        · simp only [show ((4 : Int) == 0) = false from rfl, show ((4 : Int) == 3) = false from rfl, beq_self_eq_true, cond_t, Option.bind_some, Bool.not_true, cond_f]
          exact hgo
      · have hnb : (cond (c != 203) (cond (c != 237) (cond (c != 221) (some (c != 253)) (some false)) (some false)) (some false)) = some false := by
          by_cases b1 : c = 203
          · subst b1; rfl
          by_cases b2 : c = 237
          · subst b2; rfl
          by_cases b3 : c = 221
          · subst b3; rfl
          have b4 : c = 253 := by
            by_cases b4 : c = 253
            · exact b4
            · exact absurd ⟨b1, b2, b3, b4⟩ hbare
          subst b4; rfl
        rw [hnb]
        have hp3 : p = 0 ∨ p = 3 ∨ p = 4 := by omega
        rcases hp3 with rfl | rfl | rfl <;> rfl
  · by_cases h56 : p = 5 ∨ p = 6
    · have h4 : ∀ x y : Int, By [x, y, d, c] ↔ (0 ≤ x ∧ x ≤ 255) ∧ (0 ≤ y ∧ y ≤ 255) := fun x y => by
        constructor
        · intro h
          exact ⟨h x (by simp), h y (by simp)⟩
        · rintro ⟨h1, h2⟩ z hz
          simp at hz
          rcases hz with rfl | rfl | rfl | rfl <;> assumption
      rcases h56 with rfl | rfl
      · have e1 : decode_Bytes_20.f 1000 5 c d imm l k = some [221, 203, d, c] := rfl
        have e2 : charabancref08_Bytes_21.f 1000 5 c d imm l k = some [221, 203, d, c] := rfl
        have e3 : charabancref08_Bare_22.f 1000 5 c d imm l k = some true := rfl
        rw [e1, e2, e3]
        simp only [Option.bind_some, beq_self_eq_true, Bool.not_true, cond_f]
        exact fin2 _ (by simp) ((h4 221 203).2 (by omega)) (back_high a1 221 (.inl ⟨rfl, rfl⟩) hc hi) (fun _ => rfl) (fun h => absurd (.inl rfl) h)
      · have e1 : decode_Bytes_20.f 1000 6 c d imm l k = some [253, 203, d, c] := rfl
        have e2 : charabancref08_Bytes_21.f 1000 6 c d imm l k = some [253, 203, d, c] := rfl
        have e3 : charabancref08_Bare_22.f 1000 6 c d imm l k = some true := rfl
        rw [e1, e2, e3]
        simp only [Option.bind_some, beq_self_eq_true, Bool.not_true, cond_f]
        exact fin2 _ (by simp) ((h4 253 203).2 (by omega)) (back_high a1 253 (.inr ⟨rfl, rfl⟩) hc hi) (fun _ => rfl) (fun h => absurd (.inr rfl) h)
    · have e0 : (p == 0) = false := by simp; omega
      have e1 : (p == 1) = false := by simp; omega
      have e2 : (p == 2) = false := by simp; omega
      have e3 : (p == 3) = false := by simp; omega
      have e4 : (p == 4) = false := by simp; omega
      have e5 : (p == 5) = false := by simp; omega
      have e6 : (p == 6) = false := by simp; omega
      have hB1 : decode_Bytes_20.f 1000 p c d imm l k = some [] := by simp [decode_Bytes_20.f, decode_heads_33.f, e0, e1, e2, e3, e4, e5, e6]
      have hB2 : charabancref08_Bytes_21.f 1000 p c d imm l k = some [] := by simp [charabancref08_Bytes_21.f, Let, e0, e1, e2, e3, e4, e5, e6]
      have hB3 : charabancref08_Bare_22.f 1000 p c d imm l k = some false := by
        simp only [charabancref08_Bare_22.f, Let, e0, e3, e4, cond_f]
        by_cases h : p ≥ 0
        · rw [decide_eq_true h, decide_eq_false (by omega)]; rfl
        · rw [decide_eq_false h]; rfl
      rw [hB1, hB2, hB3]
      simp
end Go.Proofs.Ytmcdkmakjjlcnaa.Pure
