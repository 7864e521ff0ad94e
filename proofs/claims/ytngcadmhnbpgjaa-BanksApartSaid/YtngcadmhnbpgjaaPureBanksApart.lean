/- The plain law of BanksApart. -/
import Derived.Test.YtngcadmhnbpgjaaBanksBanksApart
import Derived.Test.YtngcadmhnbpgjaaBanksLibD
set_option linter.unusedVariables false
set_option linter.unusedSimpArgs false
namespace Go.Proofs.Ytngcadmhnbpgjaa.Pure
open Go.RowKit Go.Eng Go.Proofs.Ytngcadmhnbpgjaa.Banks
theorem BanksApart (a0 : List Int × Int × Int × (List (Int × Int))) (a1 : Int) (a2 : Int) (w0 : ((a0.1.length * 1 ≤ 140737488351232 ∧ ∀ x ∈ a0.1, (Lit.int .u8 x).wf = true) ∧ ((Lit.int .i64 a0.2.1).wf = true ∧ ((Lit.int .i64 a0.2.2.1).wf = true ∧ (a0.2.2.2.length * 16 ≤ 140737488351232 ∧ ∀ x ∈ a0.2.2.2, ((Lit.int .i64 x.1).wf = true ∧ (Lit.int .u8 x.2).wf = true)))))) (w1 : (Lit.int .u16 a1).wf = true) (w2 : (Lit.int .u8 a2).wf = true) : ∃ K, charabanclaw19_BanksApart_10.f K a0.1 a0.2.1 a0.2.2.1 a0.2.2.2 a1 a2 = some true := by
  refine ⟨500, ?_⟩
  obtain ⟨r, n, bk, l⟩ := a0
  have hp1 := wf_u16 w1
  simp only
  unfold charabanclaw19_BanksApart_10.f
  rw [awake_eq]
  simp only [Option.bind_some, Bool.not_true, cond_f, few_eq, Let]
  cases hf : (decide (r.length ≤ 600) && decide (l.length ≤ 60)) with
  | false => rfl
  | true =>
    simp only [Bool.and_eq_true, decide_eq_true_eq] at hf
    rw [Bool.not_true, cond_f, check_eq (K := 500) (by omega) (by omega) (by omega)]
    simp only [Option.bind_some]
    cases hc : ckS r n bk l with
    | false => rfl
    | true =>
      obtain ⟨hh, hb, hr⟩ := (ck_iff r n bk l).1 hc
      have hhd := hh
      unfold hdS at hhd
      simp only [Bool.and_eq_true, decide_eq_true_eq] at hhd
      simp only [if_true, bne_self_eq_false, cond_f]
      by_cases h2 : n < 2
      · rw [cond_of (decide_eq_true h2)]
      rw [cond_no (decide_eq_false h2)]
      have hband : 0 ≤ band .u16 a1 16383 ∧ band .u16 a1 16383 ≤ 16383 := by
        have h : (BitVec.ofInt IntKind.u16.bits a1 &&& BitVec.ofInt IntKind.u16.bits 16383).toNat ≤ 16383 := by
          rw [BitVec.toNat_and]
          exact Nat.le_trans Nat.and_le_right (by decide)
        unfold band
        rw [IntKind.wrap_u16]
        omega
      obtain ⟨q, hq⟩ : ∃ q, q = IntKind.wrap .u16 (32768 + band .u16 a1 16383) := ⟨_, rfl⟩
      have hq2 : q = 32768 + band .u16 a1 16383 := by rw [hq, IntKind.wrap_u16]; omega
      rw [← hq]
      have hqr : 0 ≤ q ∧ q ≤ 65535 := by omega
      have hqn : ¬ q < (r.length : Int) := by omega
      have hw1 : IntKind.wrap .u8 (IntKind.wrap .i64 (bk + 1)) = bk + 1 := by rw [wrap_i64 (by omega) (by omega), IntKind.wrap_u8]; omega
      have hw2 : IntKind.wrap .u8 bk = bk := by rw [IntKind.wrap_u8]; omega
      have hw5 : IntKind.wrap .u8 (bk + 1) = bk + 1 := by rw [IntKind.wrap_u8]; omega
      have hw3 : IntKind.wrap .i64 (bk + 1) = bk + 1 := wrap_i64 (by omega) (by omega)
      have hw4 : IntKind.wrap .i64 bk = bk := wrap_i64 (by omega) (by omega)
      obtain ⟨nx, hnx⟩ : ∃ nx, nx = Int.tmod (bk + 1) n := ⟨_, rfl⟩
      have hnx2 : nx = if bk + 1 = n then 0 else bk + 1 := by
        rw [hnx]
        split
        · rename_i h; rw [h]; exact Int.tmod_self
        · exact Int.tmod_eq_of_lt (by omega) (by omega)
      have hbm : Int.tmod bk n = bk := Int.tmod_eq_of_lt (by omega) (by omega)
      have hh2 : hdS r n nx = true := by
        unfold hdS
        simp only [Bool.and_eq_true, decide_eq_true_eq]
        rw [hnx2]
        split <;> omega
      have hnb : nx ≠ bk := by rw [hnx2]; split <;> omega
      obtain ⟨A, B, v, hl, hA, hB⟩ := dec_at l (atS bk q) hr (fun x hx => ((bad_iff n x).1 (hb x hx)).1)
      have hpt : ptS l (atS bk q) a2 = A ++ (md (atS bk q) a2 ++ B) := by
        rw [hl]
        exact pt_dec hA hB
      have hlen := ptS_length l (atS bk q) a2
      rw [hpt] at hlen
      have hat : atS nx q ≠ atS bk q := by unfold atS; split <;> omega
      have ho : rdS (A ++ (md (atS bk q) a2 ++ B)) (atS nx q) = rdS l (atS nx q) := by rw [hl]; exact rd_other hat
      simp only [select_eq, Option.bind_some, hw1, hw2, hw3, hw4, hw5, show n > 0 by omega, if_true, ← hnx, hbm, write_ok (K := 500) (r := r) (n := n) (bk := bk) (l := l) (a := q) (b := a2) hh hqr (by omega) (by omega), if_neg hqn, hpt,
        read_ok (K := 500) (r := r) (n := n) (bk := nx) (l := A ++ (md (atS bk q) a2 ++ B)) (a := q) hh2 hqr (by omega) (by omega), read_ok (K := 500) (r := r) (n := n) (bk := nx) (l := l) (a := q) hh2 hqr (by omega) (by omega), ho, beq_self_eq_true, cond_t,
        read_ok (K := 500) (r := r) (n := n) (bk := bk) (l := A ++ (md (atS bk q) a2 ++ B)) (a := q) hh hqr (by omega) (by omega), rd_dec hA hB, cond_of (show (nx != bk) = true by simpa using hnb), samep_eq (K := 500) (r := r) (n := n) (b := bk) (l := A ++ (md (atS bk q) a2 ++ B)) (by omega) (by omega)]
end Go.Proofs.Ytngcadmhnbpgjaa.Pure
