/- Text: the pieces of an instruction's text (numbers, displacements, IX and IY), of the program and of the reference. -/
import Derived.Test.YtbcepghanbkncaaGreatDoorLiLTxLibX
set_option linter.unusedVariables false
set_option linter.unusedSimpArgs false
namespace Go.Proofs.YtbcepghanbkncaaGreatDoor.LiL.Tx
open Go.RowKit Go.Eng
def sgnT (n : Int) : List UInt8 := (if n < 0 then 45 else 43) :: numL 10 19 n.natAbs
theorem sgn_len (n : Int) : (sgnT n).length ≤ 21 := by
  have := (numL_len 10 19 n.natAbs).2
  unfold sgnT
  rw [List.length_cons]; omega
theorem dig10 {n : Nat} (h : n < 301) : charabancref09_digits_74.f 1000 (n : Int) 10 1 = some (ba (numL 10 19 n)) := by
  have key : (List.range 301).all (fun n => match charabancref09_digits_74.f 1000 (n : Int) 10 1 with | some s => s.data.toList == numL 10 19 n | none => false) = true := by kernel_rfl
  rw [List.all_eq_true] at key
  have := key n (List.mem_range.2 h)
  split at this
  · next s hs =>
    have h2 : s.data.toList = numL 10 19 n := by simpa using this
    rw [hs, ← h2, ba_of]
  · exact absurd this (by simp)
theorem refSign {n : Int} (h1 : -300 ≤ n) (h2 : n ≤ 300) : charabancref09_sign_156.f 1000 n = some (ba (sgnT n)) := by
  have hl := (numL_len 10 19 n.natAbs).2
  unfold charabancref09_sign_156.f sgnT
  by_cases h : n < 0
  · rw [decide_eq_true h, cond_t, wrap_i64 (by omega) (by omega), show (0 - n : Int) = ((n.natAbs : Nat) : Int) by omega, dig10 (by omega), Option.bind_some, if_pos h, show (⟨#[45]⟩ : ByteArray) = ba [45] from rfl, cond_of (cat_of (by rw [ba_size, ba_size]; simp; omega)), ba_app]
    rfl
  · rw [decide_eq_false h, cond_f, show charabancref09_digits_74.f 1000 n 10 1 = charabancref09_digits_74.f 1000 ((n.natAbs : Nat) : Int) 10 1 by rw [show ((n.natAbs : Nat) : Int) = n by omega], dig10 (by omega), Option.bind_some, if_neg h, show (⟨#[43]⟩ : ByteArray) = ba [43] from rfl, cond_of (cat_of (by rw [ba_size, ba_size]; simp; omega)), ba_app]
    rfl
theorem goSign {n : Int} (h1 : -300 ≤ n) (h2 : n ≤ 300) : text_signed_172.f 1000 n = some (ba (sgnT n)) := by
  have hl := (numL_len 10 19 n.natAbs).2
  unfold text_signed_172.f sgnT
  rw [goItoa (show i64 n by unfold i64; omega)]
  by_cases h : n < 0
  · rw [decide_eq_true h, cond_t, Option.bind_some, if_pos h]
    unfold Lib.itoa
    rw [if_pos h, dec_numL 19 _ (by omega)]
  · rw [decide_eq_false h, cond_f, Option.bind_some, if_neg h]
    unfold Lib.itoa
    rw [if_neg h, show n.toNat = n.natAbs by omega, dec_numL 19 _ (by omega), show (⟨#[43]⟩ : ByteArray) = ba [43] from rfl, cond_of (cat_of (by rw [ba_size, ba_size]; simp; omega)), ba_app]
    rfl
def sgd (u : Int) : Int := if u < 128 then u else u - 256
theorem sgd_in {u : Int} (h1 : 0 ≤ u) (h2 : u < 256) : -128 ≤ sgd u ∧ sgd u ≤ 127 := by unfold sgd; split <;> omega
theorem refSgd {u : Int} (h1 : 0 ≤ u) (h2 : u < 256) : charabancref01_Signed_28.f 1000 u = some (sgd u) := by
  unfold charabancref01_Signed_28.f sgd
  rw [wrap_i64 (x := u) (by omega) (by omega), wrap_i64 (by omega) (by omega)]
  by_cases h : u < 128
  · rw [decide_eq_true h, if_pos h]; rfl
  · rw [decide_eq_false h, if_neg h]; rfl
theorem goSgd {u : Int} (h1 : 0 ≤ u) (h2 : u < 256) : bits_Signed_25.f 1000 u = some (sgd u) := by
  have key : (List.range 256).all (fun n => bits_Signed_25.f 1000 (n : Int) == some (sgd (n : Int))) = true := by kernel_rfl
  rw [List.all_eq_true] at key
  have := key u.toNat (List.mem_range.2 (by omega))
  rw [show ((u.toNat : Nat) : Int) = u by omega] at this
  simpa using this
def nmT (pl : Int) : List UInt8 := if pl = 3 ∨ pl = 5 then [105, 120] else [105, 121]
theorem nm_len (pl : Int) : (nmT pl).length = 2 := by unfold nmT; split <;> rfl
theorem refName (pl : Int) : charabancref09_name_114.f 1000 pl = some (ba (nmT pl)) := by
  unfold charabancref09_name_114.f nmT
  simp only [Let]
  by_cases h3 : pl = 3
  · subst h3; rfl
  · by_cases h5 : pl = 5
    · subst h5; rfl
    · rw [show (pl == 3) = false by simpa using h3, show (pl == 5) = false by simpa using h5, if_neg (by omega)]; rfl
theorem goName (pl : Int) : text_index_174.f 1000 pl = some (ba (nmT pl)) := by
  unfold text_index_174.f nmT
  simp only [Let]
  by_cases h3 : pl = 3
  · subst h3; rfl
  · by_cases h5 : pl = 5
    · subst h5; rfl
    · rw [show (pl == 3) = false by simpa using h3, show (pl == 5) = false by simpa using h5, if_neg (by omega)]; rfl
def ixT (pl d : Int) : List UInt8 := [40] ++ nmT pl ++ sgnT (sgd d) ++ [41]
theorem ix_len (pl d : Int) : (ixT pl d).length ≤ 25 := by
  have := sgn_len (sgd d); have := nm_len pl
  unfold ixT; simp; omega
theorem refIx {d : Int} (pl : Int) (h1 : 0 ≤ d) (h2 : d < 256) : charabancref09_Index_106.f 1000 pl d = some (ba (ixT pl d)) := by
  have a := sgn_len (sgd d); have b := nm_len pl; have c := sgd_in h1 h2
  unfold charabancref09_Index_106.f ixT
  rw [refName, Option.bind_some, show (⟨#[40]⟩ : ByteArray) = ba [40] from rfl, show (⟨#[41]⟩ : ByteArray) = ba [41] from rfl, cond_of (cat_of (by simp only [ba_size, List.length_cons, List.length_nil]; omega)), refSgd h1 h2, Option.bind_some, refSign (by omega) (by omega), Option.bind_some, ba_app, ba_app, ba_app,
    cond_of (cat_of (by simp only [ba_size, List.length_append, List.length_cons, List.length_nil]; omega)), cond_of (cat_of (by simp only [ba_size, List.length_append, List.length_cons, List.length_nil]; omega))]
theorem goIx {d : Int} (pl : Int) (h1 : 0 ≤ d) (h2 : d < 256) : text_Index_152.f 1000 pl d = some (ba (ixT pl d)) := by
  have a := sgn_len (sgd d); have b := nm_len pl; have c := sgd_in h1 h2
  unfold text_Index_152.f ixT
  rw [goName, Option.bind_some, show (⟨#[40]⟩ : ByteArray) = ba [40] from rfl, show (⟨#[41]⟩ : ByteArray) = ba [41] from rfl, cond_of (cat_of (by simp only [ba_size, List.length_cons, List.length_nil]; omega)), goSgd h1 h2, Option.bind_some, goSign (by omega) (by omega), Option.bind_some, ba_app, ba_app, ba_app,
    cond_of (cat_of (by simp only [ba_size, List.length_append, List.length_cons, List.length_nil]; omega)), cond_of (cat_of (by simp only [ba_size, List.length_append, List.length_cons, List.length_nil]; omega))]
def nT (imm : Int) : List UInt8 := hexT (imm % 256) 2
def nnT (imm : Int) : List UInt8 := hexT imm 4
def toT (imm : Int) : List UInt8 := [36] ++ sgnT (sgd (imm % 256) + 2)
theorem n_len (imm : Int) : (nT imm).length ≤ 40 := hexT_len _ _
theorem nn_len (imm : Int) : (nnT imm).length ≤ 40 := hexT_len _ _
theorem to_len (imm : Int) : (toT imm).length ≤ 22 := by have := sgn_len (sgd (imm % 256) + 2); unfold toT; simp; omega
theorem mod_imm {imm : Int} (h1 : 0 ≤ imm) : Int.tmod imm 256 = imm % 256 := Int.tmod_eq_emod_of_nonneg h1
theorem lo_imm (imm : Int) : IntKind.wrap .u8 imm = imm % 256 := by
  simp only [IntKind.wrap, IntKind.bits, IntKind.signed]
  simp
theorem refN {imm : Int} (h1 : 0 ≤ imm) (pl code d a b : Int) : charabancref09_n_112.f 1000 pl code d imm a b = some (ba (nT imm)) := by
  unfold charabancref09_n_112.f nT
  rw [mod_imm h1, wrap_i64 (by omega) (by omega), refHex (by unfold i64; omega)]; rfl
theorem refNN {imm : Int} (h1 : 0 ≤ imm) (h2 : imm < 65536) (pl code d a b : Int) : charabancref09_nn_109.f 1000 pl code d imm a b = some (ba (nnT imm)) := by
  unfold charabancref09_nn_109.f nnT
  rw [wrap_i64 (by omega) (by omega), refHex (by unfold i64; omega)]; rfl
theorem refTo {imm : Int} (h1 : 0 ≤ imm) (pl code d a b : Int) : charabancref09_to_110.f 1000 pl code d imm a b = some (ba (toT imm)) := by
  have c := sgd_in (u := imm % 256) (by omega) (by omega)
  have l := sgn_len (sgd (imm % 256) + 2)
  unfold charabancref09_to_110.f toT
  rw [mod_imm h1, show IntKind.wrap .u8 (imm % 256) = imm % 256 from by rw [lo_imm (imm % 256)]; omega, refSgd (by omega) (by omega), Option.bind_some, wrap_i64 (by omega) (by omega), refSign (by omega) (by omega), Option.bind_some, show (⟨#[36]⟩ : ByteArray) = ba [36] from rfl, ba_app, cond_of (cat_of (by simp only [ba_size, List.length_append, List.length_cons, List.length_nil]; omega))]
theorem goN {imm : Int} (h1 : 0 ≤ imm) (h2 : imm < 65536) (pl code d a b x y z p q : Int) : text_shown_n_151.f 1000 pl code d imm a b x y z p q = some (ba (nT imm)) := by
  unfold text_shown_n_151.f bits_Lo_26.f nT
  rw [lo_imm imm, Option.bind_some, wrap_i64 (by omega) (by omega), goHex (by unfold i64; omega)]; rfl
theorem goNN {imm : Int} (h1 : 0 ≤ imm) (h2 : imm < 65536) (pl code d a b x y z p q : Int) : text_shown_nn_148.f 1000 pl code d imm a b x y z p q = some (ba (nnT imm)) := by
  unfold text_shown_nn_148.f nnT
  rw [wrap_i64 (by omega) (by omega), goHex (by unfold i64; omega)]; rfl
theorem goTo {imm : Int} (h1 : 0 ≤ imm) (h2 : imm < 65536) (pl code d a b x y z p q : Int) : text_shown_to_145.f 1000 pl code d imm a b x y z p q = some (ba (toT imm)) := by
  have c := sgd_in (u := imm % 256) (by omega) (by omega)
  have l := sgn_len (sgd (imm % 256) + 2)
  unfold text_shown_to_145.f bits_Lo_26.f toT
  rw [lo_imm imm, Option.bind_some, goSgd (by omega) (by omega), Option.bind_some, wrap_i64 (by omega) (by omega), goSign (by omega) (by omega), Option.bind_some, show (⟨#[36]⟩ : ByteArray) = ba [36] from rfl, ba_app, cond_of (cat_of (by simp only [ba_size, List.length_append, List.length_cons, List.length_nil]; omega))]
end Go.Proofs.YtbcepghanbkncaaGreatDoor.LiL.Tx
