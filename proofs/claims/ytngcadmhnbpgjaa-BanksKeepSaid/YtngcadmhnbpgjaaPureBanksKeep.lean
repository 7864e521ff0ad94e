/- The plain law of BanksKeep. -/
import Derived.Test.YtngcadmhnbpgjaaBanksBanksKeep
import Derived.Test.YtngcadmhnbpgjaaBanksLibD
set_option linter.unusedVariables false
set_option linter.unusedSimpArgs false
namespace Go.Proofs.Ytngcadmhnbpgjaa.Pure
open Go.RowKit Go.Eng Go.Proofs.Ytngcadmhnbpgjaa.Banks
theorem BanksKeep (a0 : List Int × Int × Int × (List (Int × Int))) (a1 : Int) (a2 : Int) (w0 : ((a0.1.length * 1 ≤ 140737488351232 ∧ ∀ x ∈ a0.1, (Lit.int .u8 x).wf = true) ∧ ((Lit.int .i64 a0.2.1).wf = true ∧ ((Lit.int .i64 a0.2.2.1).wf = true ∧ (a0.2.2.2.length * 16 ≤ 140737488351232 ∧ ∀ x ∈ a0.2.2.2, ((Lit.int .i64 x.1).wf = true ∧ (Lit.int .u8 x.2).wf = true)))))) (w1 : (Lit.int .u16 a1).wf = true) (w2 : (Lit.int .u16 a2).wf = true) : ∃ K, charabanclaw19_BanksKeep_9.f K a0.1 a0.2.1 a0.2.2.1 a0.2.2.2 a1 a2 = some true := by
  refine ⟨500, ?_⟩
  obtain ⟨r, n, bk, l⟩ := a0
  have hp1 := wf_u16 w1
  have hp2 := wf_u16 w2
  simp only
  unfold charabanclaw19_BanksKeep_9.f
  rw [awake_eq]
  simp only [Option.bind_some, Bool.not_true, cond_f, few_eq, Let]
  cases hf : (decide (r.length ≤ 600) && decide (l.length ≤ 60)) with
  | false => rfl
  | true =>
    simp only [Bool.and_eq_true, decide_eq_true_eq] at hf
    rw [Bool.not_true, cond_f, check_eq (K := 500) (by omega) (by omega) (by omega)]
    simp only [Option.bind_some]
    cases hc : ckS r n bk l with
    | false => rfl
    | true =>
      obtain ⟨hh, hb, hr⟩ := (ck_iff r n bk l).1 hc
      simp only [if_true, bne_self_eq_false, cond_f, write_ok (K := 500) (r := r) (n := n) (bk := bk) (l := l) (a := a1) (b := IntKind.wrap .u8 a2) hh hp1 (by omega) (by omega), Option.bind_some]
      rw [wrap_i64 (x := a1) (by omega) (by omega)]
      by_cases h1 : a1 < (r.length : Int)
      · have hrd : ∀ a : Int, 0 ≤ a ∧ a ≤ 65535 → banks_Read_34.f 500 r n bk l a = some (if a < (r.length : Int) then rdD r a else rdS l (atS bk a)) := fun a ha => read_ok hh ha (by omega) (by omega)
        simp only [if_pos h1, check_eq (K := 500) (r := r) (n := n) (bk := bk) (l := l) (by omega) (by omega) (by omega), hc, if_true, Option.bind_some, bne_self_eq_false, cond_f, hrd a2 hp2, hrd a1 hp1, decide_eq_true h1, cond_t, samep_eq (K := 500) (l := l) (by omega) (by omega), cond_of (inR_iff.2 ⟨hp1.1, h1⟩), beq_self_eq_true]
        cases a2 != a1 <;> rfl
      · obtain ⟨A, B, v, hl, hA, hB⟩ := dec_at l (atS bk a1) hr (fun x hx => ((bad_iff n x).1 (hb x hx)).1)
        have hpt : ptS l (atS bk a1) (IntKind.wrap .u8 a2) = A ++ (md (atS bk a1) (IntKind.wrap .u8 a2) ++ B) := by
          rw [hl]
          exact pt_dec hA hB
        have hlen := ptS_length l (atS bk a1) (IntKind.wrap .u8 a2)
        rw [hpt] at hlen
        have hhd := hh
        unfold hdS at hhd
        simp only [Bool.and_eq_true, decide_eq_true_eq] at hhd
        have hat : 0 ≤ atS bk a1 ∧ atS bk a1 < 65536 + 16384 * n := by unfold atS; split <;> omega
        have hck : ckS r n bk (A ++ (md (atS bk a1) (IntKind.wrap .u8 a2) ++ B)) = true := by
          refine (ck_iff r n bk _).2 ⟨hh, fun x hx => ?_, ris_dec hA hB (hl ▸ hr)⟩
          rcases List.mem_append.1 hx with hx | hx
          · exact hb x (by rw [hl]; exact List.mem_append_left _ hx)
          · rcases List.mem_append.1 hx with hx | hx
            · obtain ⟨rfl, h0⟩ := md_mem hx
              exact (bad_iff n _).2 ⟨h0, hat.1, hat.2⟩
            · exact hb x (by rw [hl]; exact List.mem_append_right _ (List.mem_append_right _ hx))
        have hrd : ∀ (l' : List Sp) (a : Int), l'.length ≤ 200 → 0 ≤ a ∧ a ≤ 65535 → banks_Read_34.f 500 r n bk l' a = some (if a < (r.length : Int) then rdD r a else rdS l' (atS bk a)) := fun l' a hl' ha => read_ok hh ha (by omega) (by omega)
        have hv : rdS l (atS bk a1) = v := by rw [hl]; exact rd_dec hA hB
        have hback : ptS (A ++ (md (atS bk a1) (IntKind.wrap .u8 a2) ++ B)) (atS bk a1) v = l := by rw [pt_dec hA hB, ← hl]
        simp only [if_neg h1, hpt, check_eq (K := 500) (r := r) (n := n) (bk := bk) (l := A ++ (md (atS bk a1) (IntKind.wrap .u8 a2) ++ B)) (by omega) (by omega) (by omega), hck, if_true, Option.bind_some, bne_self_eq_false, cond_f, hrd _ a2 (show (A ++ (md (atS bk a1) (IntKind.wrap .u8 a2) ++ B)).length ≤ 200 by omega) hp2,
          hrd l a2 (by omega) hp2, hrd l a1 (by omega) hp1, hrd _ a1 (show (A ++ (md (atS bk a1) (IntKind.wrap .u8 a2) ++ B)).length ≤ 200 by omega) hp1, decide_eq_false h1, rd_dec hA hB, beq_self_eq_true, cond_t, hv,
          write_ok (K := 500) (r := r) (n := n) (bk := bk) (l := A ++ (md (atS bk a1) (IntKind.wrap .u8 a2) ++ B)) (a := a1) (b := v) hh hp1 (by omega) (by omega), hback, samep_eq (K := 500) (l := l) (by omega) (by omega)]
        by_cases h2 : a2 = a1
        · simp [h2]
        · rw [cond_of (c := a2 != a1) (by simpa using h2)]
          by_cases h3 : a2 < (r.length : Int)
          · simp [h3]
          · have hne : atS bk a2 ≠ atS bk a1 := by unfold atS; split <;> split <;> omega
            have ho : rdS (A ++ (md (atS bk a1) (IntKind.wrap .u8 a2) ++ B)) (atS bk a2) = rdS l (atS bk a2) := by rw [hl]; exact rd_other hne
            simp only [if_neg h3, ho, bne_self_eq_false, cond_f]
end Go.Proofs.Ytngcadmhnbpgjaa.Pure
