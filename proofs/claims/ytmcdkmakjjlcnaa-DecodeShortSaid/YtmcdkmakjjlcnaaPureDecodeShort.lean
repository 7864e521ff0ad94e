/- The plain law of DecodeShort. -/
import Derived.Test.YtmcdkmakjjlcnaaDecDecodeShort
import Derived.Test.YtmcdkmakjjlcnaaDecLibE
namespace Go.Proofs.Ytmcdkmakjjlcnaa.Pure
open Go.RowKit Go.Eng Go.Proofs.Ytmcdkmakjjlcnaa.Dec
theorem DecodeShort (a0 : List Int) (a1 : List Int) (w0 : (a0.length * 1 ≤ 140737488351232 ∧ ∀ x ∈ a0, (Lit.int .u8 x).wf = true)) (w1 : (a1.length * 1 ≤ 140737488351232 ∧ ∀ x ∈ a1, (Lit.int .u8 x).wf = true)) : ∃ K, charabanclaw08_DecodeShort_6.f K a0 a1 = some true := by
  have hb : By a0 := fun x hx => u8_of (w0.2 x hx)
  have hm : By a1 := fun x hx => u8_of (w1.2 x hx)
  refine ⟨1000, ?_⟩
  unfold charabanclaw08_DecodeShort_6.f
  rw [awake_eq]
  simp only [Option.bind_some, Bool.not_true, cond_f, Let]
  by_cases hl : a0.length > 100
  · rw [cond_of (by simp; omega)]; rfl
  rw [cond_no (by simp; omega)]
  by_cases hl2 : a1.length > 20
  · rw [cond_of (by simp; omega)]
  rw [cond_no (by simp; omega), dec_next a0 hb (by omega)]
  simp only [Option.bind_some]
  cases hn : isN a0 with
  | false =>
    have hn' := hn
    unfold isN at hn'
    have hz : Nx a0 = (0, 0, 0, 0, 0, 0, false) := by
      rw [Nx_Bd] at hn' ⊢
      unfold Bd fin at hn' ⊢
      split at hn'
      · cases hn'
      · rename_i h; rw [if_neg h]
    rw [hz]
    rfl
  | true =>
    have hn' := hn
    unfold isN at hn'
    obtain ⟨g1, g2, g3⟩ := lenN_of hb hn
    obtain ⟨t1, t2, t3, t4⟩ := Nx_take hb hn
    have hcut : cutL a0 0 (lenN a0 : Int) = a0.take (lenN a0) := cutL_nat _ _
    have htl : (a0.take (lenN a0)).length = lenN a0 := by simp; omega
    have hby : By (a0.take (lenN a0) ++ a1) := fun x hx => by
      rcases List.mem_append.1 hx with h | h
      · exact hb x (List.mem_of_mem_take h)
      · exact hm x h
    simp only [hn', Bool.not_true, cond_f]
    rw [← g1, hcut, List.nil_append, cond_of (cutR_of (by omega) (by omega) (by omega)), cond_of (mayBe_of (by simp; omega) (by simp; omega)), cond_of (mayBe_of (by simp; omega) (by simp; omega)), dec_next _ hby (by simp; omega), t1]
    simp only [Option.bind_some, hn', Bool.not_true, cond_f, ← g1, beq_self_eq_true, Bool.and_self]
    rw [decide_eq_false (show ¬ (lenN a0 : Int) < 1 by omega), decide_eq_false (show ¬ (lenN a0 : Int) > (a0.length : Int) by omega)]
    simp only [cond_f]
    have hloop := searchI (fun k t => charabanclaw08_DecodeShort_6.l0 1000 a0 a1 (Nx a0).1 (Nx a0).2.1 (Nx a0).2.2.1 (Nx a0).2.2.2.1 (lenN a0 : Int) (Nx a0).2.2.2.2.2.1 (a0.take (lenN a0) ++ a1) k t) (lenN a0) (fun _ => false) () (fun k => by
      show charabanclaw08_DecodeShort_6.l0 1000 a0 a1 _ _ _ _ _ _ _ (k + 1) _ = _
      rw [charabanclaw08_DecodeShort_6.l0, cond_no (by simp)]) (fun k i hi => by
      show charabanclaw08_DecodeShort_6.l0 1000 a0 a1 _ _ _ _ _ _ _ (k + 1) _ = _
      rw [charabanclaw08_DecodeShort_6.l0, cond_of (by simpa using hi), cond_of (cutR_of (by omega) (by omega) (by omega)), cutL_nat, dec_next _ (fun x hx => hb x (List.mem_of_mem_take hx)) (by simp; omega)]
      simp only [Option.bind_some, t2 i hi, cond_f]
      rw [wrap_nat (by omega)]
      rfl) (lenN a0) 1000 0 (by omega) (by omega)
    simp only [Int.ofNat_zero] at hloop
    erw [hloop]
    simp only [List.any_eq_true, Bool.false_eq_true, and_false, exists_false, if_false, Option.bind_some, Lp.elim]
    rw [cond_of (c := inR 0 a0.length) (inR_iff.2 ⟨by omega, by omega⟩)]
    have hB : Nx a0 = Bd (preP a0).length (lastP 0 (preP a0)) (restP a0) := by
      have := Nx_of (pre_all a0) (rest_head a0)
      rwa [pre_rest] at this
    cases hq : a0 with
    | nil =>
      have : a0.length = 0 := by rw [hq]; rfl
      omega
    | cons x xs =>
      have hx : rdD (x :: xs) 0 = x := rfl
      rw [hx]
      by_cases hp : isP x = true
      · have hp2 : (cond (x != 221) (x != 253) false) = false := by
          simp only [isP, Bool.or_eq_true, beq_iff_eq] at hp
          rcases hp with rfl | rfl <;> rfl
        have hcond : ∀ {α : Type} (u v : α), cond (x != 221) (cond (x != 253) u v) v = v := fun u v => by
          simp only [isP, Bool.or_eq_true, beq_iff_eq] at hp
          rcases hp with rfl | rfl <;> rfl
        rw [← hq]
        have hpl : (preP a0).length = cntP a0 := pre_len a0
        have hpne : preP a0 ≠ [] := by rw [hq]; simp [preP, hp]
        have hcp : 1 ≤ cntP a0 := by rw [← hpl]; exact List.length_pos_iff.2 hpne
        -- with one prefix more
        have hPre : a0.take (lenN a0) = preP a0 ++ (restP a0).take (lenN a0 - cntP a0) := by
          have h1 : (preP a0 ++ restP a0).take ((preP a0).length + (lenN a0 - cntP a0)) = preP a0 ++ (restP a0).take (lenN a0 - cntP a0) := List.take_length_add_append ..
          rw [pre_rest] at h1
          rwa [show (preP a0).length + (lenN a0 - cntP a0) = lenN a0 by omega] at h1
        have hne := rest_of_is hn
        have hhd : ∀ more, isP (((restP a0).take (lenN a0 - cntP a0) ++ more).headD 0) = false := fun more => by
          rcases rest_head a0 with h0 | h0
          · exact absurd h0 hne
          · cases hr : restP a0 with
            | nil => exact absurd hr hne
            | cons y t =>
              rw [hr] at h0
              obtain ⟨j, hj⟩ : ∃ j, lenN a0 - cntP a0 = j + 1 := ⟨lenN a0 - cntP a0 - 1, by omega⟩
              rw [hj]
              simpa using h0
        have e1 : Bd (preP a0).length (lastP 0 (preP a0)) ((restP a0).take (lenN a0 - cntP a0) ++ a1) = Nx a0 := by
          rw [← Nx_of (pre_all a0) (.inr (hhd a1)), ← List.append_assoc, ← hPre, t1]
        have e2 : Nx ([221] ++ (a0.take (lenN a0) ++ a1)) = Bd ((preP a0).length + 1) (lastP 0 (preP a0)) ((restP a0).take (lenN a0 - cntP a0) ++ a1) := by
          rw [hPre, List.append_assoc, ← List.append_assoc]
          have := Nx_of (P := 221 :: preP a0) (r := (restP a0).take (lenN a0 - cntP a0) ++ a1) (fun y hy => by
            rcases List.mem_cons.1 hy with rfl | hy
            · rfl
            · exact pre_all a0 y hy) (.inr (hhd a1))
          rw [last_cons (pre_all a0) hpne 221 0 rfl] at this
          exact this
        have hdd : By ([221] ++ (a0.take (lenN a0) ++ a1)) := fun y hy => by
          rcases List.mem_append.1 hy with h | h
          · simp at h; omega
          · exact hby y h
        rw [cond_of (mayBe_of (by simp; omega) (by simp; omega)), dec_next _ hdd (by simp; omega), e2]
        have hcnd := hcond (some ((Nx a0).2.2.2.2.2.1 == 0)) (some true)
        have hn1 := hn'
        rw [← e1] at hn1
        generalize (restP a0).take (lenN a0 - cntP a0) ++ a1 = r at *
        have hL0 : lastP 0 (preP a0) = 221 ∨ lastP 0 (preP a0) = 253 := by
          rcases last_in (preP a0) 0 with h | h
          · exfalso
            have h7 : cntP (preP a0) = (preP a0).length := by
              have := (parts_of (preP a0) [] 0 (pre_all a0) (.inl rfl)).1
              rwa [List.append_nil] at this
            omega
          · exact h.2
        generalize lastP 0 (preP a0) = L at *
        have hk : kO ((preP a0).length + 1) L (r.headD 0) = kO (preP a0).length L (r.headD 0) + 1 := by
          have hL : ¬ L = 0 := by omega
          unfold kO
          split
          · (try rw [if_neg hL]); (try rw [if_neg hL]); omega
          · omega
        have hres : Bd ((preP a0).length + 1) L r = ((Nx a0).1, (Nx a0).2.1, (Nx a0).2.2.1, (Nx a0).2.2.2.1, (Nx a0).2.2.2.2.1 + 1, (Nx a0).2.2.2.2.2.1 + 1, true) := by
          rw [← e1] at hn' ⊢
          unfold Bd fin at hn' ⊢
          split at hn'
          · rename_i h
            rw [if_pos h, if_pos h, hk]
            simp only [Prod.mk.injEq, true_and, and_true]
            omega
          · cases hn'
        have hsk : 0 ≤ (Nx a0).2.2.2.2.2.1 ∧ (Nx a0).2.2.2.2.2.1 ≤ 1000 := by
          have hple : cntP a0 ≤ a0.length := cnt_le a0
          rw [← e1] at hn' ⊢
          unfold Bd fin at hn' ⊢
          split at hn'
          · rename_i h
            rw [if_pos h]
            show 0 ≤ kO (preP a0).length L (r.headD 0) ∧ kO (preP a0).length L (r.headD 0) ≤ 1000
            unfold kO
            split
            · split <;> omega
            · omega
          · cases hn'
        rw [hres]
        simp only [Option.bind_some, cond_t, beq_self_eq_true]
        rw [wrap_i64 (x := (Nx a0).2.2.2.2.2.1 + 1) (by omega) (by omega), wrap_i64 (x := (lenN a0 : Int) + 1) (by omega) (by omega), ← g1]
        simp only [beq_self_eq_true, cond_t]
        exact hcond _ _
      · have hp' : isP x = false := by simpa using hp
        simp only [isP, Bool.or_eq_false_iff, beq_eq_false_iff_ne] at hp'
        rw [cond_of (c := x != 221) (by simpa using hp'.1), cond_of (c := x != 253) (by simpa using hp'.2), ← hq]
        have h0 : preP a0 = [] := by rw [hq]; simp [preP, hp]
        rw [hB, h0]
        have h3 : (Bd ([] : List Int).length (lastP 0 []) (restP a0)).2.2.2.2.2.1 = 0 := by
          unfold Bd fin kO lastP
          split
          · dsimp only; split <;> rfl
          · rfl
        rw [h3]
        rfl
end Go.Proofs.Ytmcdkmakjjlcnaa.Pure
