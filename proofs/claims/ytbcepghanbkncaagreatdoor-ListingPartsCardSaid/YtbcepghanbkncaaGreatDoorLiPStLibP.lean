/- The parts of a listing. -/
import Derived.Test.YtbcepghanbkncaaGreatDoorLiPStLibC
set_option linter.unusedVariables false
set_option linter.unusedSimpArgs false
namespace Go.Proofs.YtbcepghanbkncaaGreatDoor.LiP.St
open Go.RowKit Go.Eng Go.Proofs.YtbcepghanbkncaaGreatDoor.LiP
theorem band_15 (n : Int) : band .i64 n 15 = n % 16 := by
  have h1 : (BitVec.ofInt 64 n &&& BitVec.ofInt 64 15).toNat = (n % 16).toNat := by
    rw [BitVec.toNat_and, BitVec.toNat_ofInt, show (BitVec.ofInt 64 15).toNat = 2 ^ 4 - 1 from rfl, Nat.and_two_pow_sub_one_eq_mod]
    omega
  have : band .i64 n 15 = IntKind.wrap .i64 (((BitVec.ofInt 64 n &&& BitVec.ofInt 64 15).toNat : Nat) : Int) := rfl
  rw [this, h1, IntKind.wrap_i64]
  omega
theorem parts_eq {l : List Cel} (h : Okl l) (a1 a2 : Int) : ((listing_Next_13.f 1000 l (IntKind.wrap .u16 a1) (band .i64 a1 15)).bind fun t12 => (listing_Lines_14.f 1000 l (IntKind.wrap .u16 a1) (band .i64 a1 15)).bind fun t17 => cond (mayBe (([] : List ByteArray).length + t17.length) 16) ((listing_Lines_14.f 1000 l t12 (band .i64 a2 15)).bind fun t33 => cond (mayBe ((([] : List ByteArray) ++ t17).length + t33.length) 16) ((listing_Rows_15.f 1000 l (IntKind.wrap .u16 a1) (band .i64 a1 15)).bind fun t48 => cond (mayBe (([] : List ByteArray).length + t48.length) 16) ((listing_Rows_15.f 1000 l (IntKind.wrap .u16 ((IntKind.wrap .u16 a1) + (IntKind.wrap .u16 (IntKind.wrap .i64 (16 * (band .i64 a1 15)))))) (band .i64 a2 15)).bind fun t64 => cond (mayBe ((([] : List ByteArray) ++ t48).length + t64.length) 16) ((listing_Lines_14.f 1000 l (IntKind.wrap .u16 a1) (IntKind.wrap .i64 ((band .i64 a1 15) + (band .i64 a2 15)))).bind fun t79 => (charabancref09_Same_16.f 1000 ((([] : List ByteArray) ++ t17) ++ t33) t79).bind fun t88 => cond t88 ((listing_Rows_15.f 1000 l (IntKind.wrap .u16 a1) (IntKind.wrap .i64 ((band .i64 a1 15) + (band .i64 a2 15)))).bind fun t94 => (charabancref09_Same_16.f 1000 ((([] : List ByteArray) ++ t48) ++ t64) t94).bind fun t103 => cond t103 ((listing_Next_13.f 1000 l t12 (band .i64 a2 15)).bind fun t109 => (listing_Next_13.f 1000 l (IntKind.wrap .u16 a1) (IntKind.wrap .i64 ((band .i64 a1 15) + (band .i64 a2 15)))).bind fun t114 => cond (t109 == t114) (some ((((([] : List ByteArray) ++ t48) ++ t64).length : Int) == (IntKind.wrap .i64 ((band .i64 a1 15) + (band .i64 a2 15))))) (some false)) (some false)) (some false)) none) none) none) none) = some true := by
  rw [band_15, band_15]
  have ha := Ce.w16_in a1
  generalize IntKind.wrap .u16 a1 = a at ha ⊢
  obtain ⟨n, hn⟩ := Int.eq_ofNat_of_zero_le (show 0 ≤ a1 % 16 by omega)
  obtain ⟨m, hm⟩ := Int.eq_ofNat_of_zero_le (show 0 ≤ a2 % 16 by omega)
  have hn2 : n < 16 := by omega
  have hm2 : m < 16 := by omega
  rw [hn, hm]
  have e1 : (min 200 (n : Int)).toNat = n := by omega
  have e2 : (min 200 (m : Int)).toNat = m := by omega
  have e3 : IntKind.wrap .i64 ((n : Int) + (m : Int)) = ((n + m : Nat) : Int) := by rw [wrap_i64 (by omega) (by omega)]; omega
  have e4 : (min 200 ((n + m : Nat) : Int)).toNat = n + m := by omega
  have e5 : IntKind.wrap .u16 (a + IntKind.wrap .u16 (IntKind.wrap .i64 (16 * (n : Int)))) = (a + 16 * (n : Int)) % 65536 := by
    rw [wrap_i64 (by omega) (by omega), IntKind.wrap_u16, IntKind.wrap_u16]; omega
  have hx := nextI_in (l := l) n a ha
  have l1 := linesI_len l n a
  have l2 := linesI_len l m (nextI l a n)
  have r1 := rowsI_len l n a
  have r2 := rowsI_len l m ((a + 16 * (n : Int)) % 65536)
  rw [e3, e5, goNext h ha, e1, Option.bind_some, goLines h ha, e1, Option.bind_some, mayBe_of (by rw [l1]; simp; omega) (by rw [l1]; simp; omega), cond_t, goLines h hx, e2, Option.bind_some, List.nil_append, mayBe_of (by rw [l1, l2]; omega) (by rw [l1, l2]; omega), cond_t,
    goRows h ha, e1, Option.bind_some, mayBe_of (by rw [r1]; simp; omega) (by rw [r1]; simp; omega), cond_t, goRows h (by omega), e2, Option.bind_some, List.nil_append, mayBe_of (by rw [r1, r2]; omega) (by rw [r1, r2]; omega), cond_t, goLines h ha, e4, Option.bind_some, linesI_app,
    same_self _ (by rw [linesI_len]; omega), Option.bind_some, cond_t, goRows h ha, e4, Option.bind_some, rowsI_app l n m a ha, same_self _ (by rw [rowsI_len]; omega), Option.bind_some, cond_t, goNext h hx, e2, Option.bind_some, goNext h ha, e4, Option.bind_some, nextI_app, beq_self_eq_true, cond_t, rowsI_len, beq_self_eq_true]
end Go.Proofs.YtbcepghanbkncaaGreatDoor.LiP.St
