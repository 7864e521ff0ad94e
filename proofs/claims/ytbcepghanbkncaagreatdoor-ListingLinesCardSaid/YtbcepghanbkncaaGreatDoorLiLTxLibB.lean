/- Text: registers and pairs, of the program and of the reference. -/
import Derived.Test.YtbcepghanbkncaaGreatDoorLiLTxLibA
set_option linter.unusedVariables false
set_option linter.unusedSimpArgs false
namespace Go.Proofs.YtbcepghanbkncaaGreatDoor.LiL.Tx
open Go.RowKit Go.Eng
def nearC (c : Int) : Bool :=
  let x := c / 64; let y := c / 8 % 8; let z := c % 8
  (x == 0 && y == 6 && (decide (4 ≤ z) && decide (z ≤ 6))) || (x == 1 && ((y == 6) != (z == 6))) || (x == 2 && z == 6)
def nearT (pl c : Int) : Bool := (pl == 5 || pl == 6) || ((pl == 3 || pl == 4) && nearC c)
theorem codes {c : Int} (P : Int → Bool) (h : (List.range 256).all (fun n => P (n : Int)) = true) (h1 : 0 ≤ c) (h2 : c < 256) : P c = true := by
  rw [List.all_eq_true] at h
  have := h c.toNat (List.mem_range.2 (by omega))
  rwa [show ((c.toNat : Nat) : Int) = c by omega] at this
theorem refNear {c : Int} (pl : Int) (h1 : 0 ≤ c) (h2 : c < 256) : charabancref08_Near_83.f 1000 pl c = some (nearT pl c) := by
  have k3 := codes (fun c => charabancref08_Near_83.f 1000 3 c == some (nearT 3 c)) (by kernel_rfl) h1 h2
  have k4 := codes (fun c => charabancref08_Near_83.f 1000 4 c == some (nearT 4 c)) (by kernel_rfl) h1 h2
  by_cases e3 : pl = 3
  · subst e3; simpa using k3
  · by_cases e4 : pl = 4
    · subst e4; simpa using k4
    · have e3 : (pl == 3) = false := by simpa using e3
      have e4 : (pl == 4) = false := by simpa using e4
      unfold charabancref08_Near_83.f charabancref08_Fields_27.f nearT
      rw [Option.bind_some]
      simp only [Let, e3, e4]
      cases h5 : pl == 5 <;> cases h6 : pl == 6 <;> rfl
theorem goNear {c : Int} (pl : Int) (h1 : 0 ≤ c) (h2 : c < 256) : decode_Near_122.f 1000 pl c = some (nearT pl c) := by
  have k3 := codes (fun c => decode_Near_122.f 1000 3 c == some (nearT 3 c)) (by kernel_rfl) h1 h2
  have k4 := codes (fun c => decode_Near_122.f 1000 4 c == some (nearT 4 c)) (by kernel_rfl) h1 h2
  by_cases e3 : pl = 3
  · subst e3; simpa using k3
  · by_cases e4 : pl = 4
    · subst e4; simpa using k4
    · have e3' : (pl == 3) = false := by simpa using e3
      have e4' : (pl == 4) = false := by simpa using e4
      have e3'' : (pl != 3) = true := by simpa using e3
      have e4'' : (pl != 4) = true := by simpa using e4
      unfold decode_Near_122.f nearT
      simp only [Let, e3', e4', e3'', e4'']
      cases h5 : pl == 5 <;> cases h6 : pl == 6 <;> rfl
def onT (pl : Int) : Bool := pl == 3 || pl == 4
theorem refOn (pl c d i a b : Int) : charabancref09_indexed_113.f 1000 pl c d i a b = some (onT pl) := by
  unfold charabancref09_indexed_113.f onT
  cases pl == 3 <;> rfl
theorem goOn (pl c d i a b x y z p q : Int) : text_shown_indexed_173.f 1000 pl c d i a b x y z p q = some (onT pl) := by
  unfold text_shown_indexed_173.f onT
  cases pl == 3 <;> rfl
def regL (k : Nat) : List UInt8 := [[98], [99], [100], [101], [104], [108], [40, 104, 108, 41], [97]].getD k []
def regT (pl c d : Int) (k : Nat) : List UInt8 :=
  if onT pl then (if k = 6 then ixT pl d else if (k = 4 ∨ k = 5) ∧ nearT pl c = false then nmT pl ++ regL k else regL k) else regL k
theorem regL_len (k : Nat) (h : k < 8) : (regL k).length ≤ 4 := by
  rcases (by omega : k = 0 ∨ k = 1 ∨ k = 2 ∨ k = 3 ∨ k = 4 ∨ k = 5 ∨ k = 6 ∨ k = 7) with rfl | rfl | rfl | rfl | rfl | rfl | rfl | rfl <;> decide
theorem reg_len (pl c d : Int) (k : Nat) (h : k < 8) : (regT pl c d k).length ≤ 25 := by
  have := regL_len k h; have := ix_len pl d; have := nm_len pl
  unfold regT
  split
  · split
    · omega
    · split
      · rw [List.length_append]; omega
      · omega
  · omega
theorem rdRegs {k : Nat} (h : k < 8) : rdD ([(⟨#[98]⟩ : ByteArray), (⟨#[99]⟩ : ByteArray), (⟨#[100]⟩ : ByteArray), (⟨#[101]⟩ : ByteArray), (⟨#[104]⟩ : ByteArray), (⟨#[108]⟩ : ByteArray), (⟨#[40, 104, 108, 41]⟩ : ByteArray), (⟨#[97]⟩ : ByteArray)] : List ByteArray) (k : Int) = ba (regL k) := by
  rcases (by omega : k = 0 ∨ k = 1 ∨ k = 2 ∨ k = 3 ∨ k = 4 ∨ k = 5 ∨ k = 6 ∨ k = 7) with rfl | rfl | rfl | rfl | rfl | rfl | rfl | rfl <;> rfl
theorem refReg {c d : Int} {k : Nat} (h1 : 0 ≤ c) (h2 : c < 256) (h3 : 0 ≤ d) (h4 : d < 256) (hk : k < 8) (pl i a b : Int) : charabancref09_reg_71.f 1000 pl c d i a b (k : Int) = some (ba (regT pl c d k)) := by
  have hl := regL_len k hk; have hn := nm_len pl
  unfold charabancref09_reg_71.f regT
  rw [refOn, Option.bind_some, refNear pl h1 h2, Option.bind_some, refName, refIx pl h3 h4]
  simp only [Let]
  have hin : inR (k : Int) ([(⟨#[98]⟩ : ByteArray), (⟨#[99]⟩ : ByteArray), (⟨#[100]⟩ : ByteArray), (⟨#[101]⟩ : ByteArray), (⟨#[104]⟩ : ByteArray), (⟨#[108]⟩ : ByteArray), (⟨#[40, 104, 108, 41]⟩ : ByteArray), (⟨#[97]⟩ : ByteArray)] : List ByteArray).length = true := inR_nat (n := 8) hk
  have hm : mayCat (ba (nmT pl)).size (ba (regL k)).size = true := cat_of (by rw [ba_size, ba_size]; omega)
  simp only [rdRegs hk, Option.bind_some, hin, hm, cond_t, ba_app]
  cases ho : onT pl
  · rfl
  · rw [if_pos rfl, cond_t]
    by_cases e6 : k = 6
    · subst e6; rfl
    · rw [if_neg e6, show ((k : Int) == 6) = false by simp; omega, cond_f]
      cases hr : nearT pl c
      · by_cases e4 : k = 4
        · subst e4; rfl
        · by_cases e5 : k = 5
          · subst e5; rfl
          · rw [show ((k : Int) == 4) = false by simp; omega, show ((k : Int) == 5) = false by simp; omega, if_neg (by rintro ⟨h, -⟩; omega)]; rfl
      · rw [if_neg (by rintro ⟨-, h⟩; exact absurd h (by decide))]
        cases (k : Int) == 4 <;> cases (k : Int) == 5 <;> rfl
theorem goReg {c d : Int} {k : Nat} (h1 : 0 ≤ c) (h2 : c < 256) (h3 : 0 ≤ d) (h4 : d < 256) (hk : k < 8) (pl i a b x y z p q : Int) : text_shown_reg_150.f 1000 pl c d i a b x y z p q (k : Int) = some (ba (regT pl c d k)) := by
  have hl := regL_len k hk; have hn := nm_len pl
  unfold text_shown_reg_150.f regT
  rw [goOn, Option.bind_some, goNear pl h1 h2, goName, goIx pl h3 h4]
  have hin : inR (k : Int) 8 = true := inR_nat hk
  have hm : mayCat (ba (nmT pl)).size (ba (regL k)).size = true := cat_of (by rw [ba_size, ba_size]; omega)
  have hr : rdD tab_6 (k : Int) = ba (regL k) := rdRegs hk
  simp only [Let, hr, Option.bind_some, hin, hm, cond_t, ba_app]
  cases ho : onT pl
  · rfl
  · rw [if_pos rfl]
    simp only [Bool.not_true, cond_f]
    by_cases e6 : k = 6
    · subst e6; rfl
    · rw [if_neg e6, show ((k : Int) == 6) = false by simp; omega, cond_f]
      cases hr : nearT pl c
      · by_cases e4 : k = 4
        · subst e4; rfl
        · by_cases e5 : k = 5
          · subst e5; rfl
          · rw [show ((k : Int) == 4) = false by simp; omega, show ((k : Int) == 5) = false by simp; omega, if_neg (by rintro ⟨h, -⟩; omega)]; rfl
      · rw [if_neg (by rintro ⟨-, h⟩; exact absurd h (by decide))]
        cases (k : Int) == 4 <;> cases (k : Int) == 5 <;> rfl
def pairT (pl : Int) (p : Nat) (last : List UInt8) : List UInt8 := if p = 2 ∧ onT pl = true then nmT pl else [[98, 99], [100, 101], [104, 108], last].getD p []
theorem pair_len (pl : Int) (p : Nat) (last : List UInt8) (hp : p < 4) (hl : last.length ≤ 2) : (pairT pl p last).length ≤ 2 := by
  have := nm_len pl
  unfold pairT
  split
  · omega
  · rcases (by omega : p = 0 ∨ p = 1 ∨ p = 2 ∨ p = 3) with rfl | rfl | rfl | rfl
    all_goals first | (show ([_, _] : List UInt8).length ≤ 2; decide) | exact hl
theorem refPair (pl c d i a b : Int) {p : Nat} (hp : p < 4) (last : List UInt8) : charabancref09_pair_108.f 1000 pl c d i a b (p : Int) (ba last) = some (ba (pairT pl p last)) := by
  unfold charabancref09_pair_108.f pairT
  rw [refOn, Option.bind_some, refName]
  simp only [Let]
  rcases (by omega : p = 0 ∨ p = 1 ∨ p = 2 ∨ p = 3) with rfl | rfl | rfl | rfl <;> cases onT pl <;> rfl
def sp : List UInt8 := [115, 112]
def af : List UInt8 := [97, 102]
theorem goPair (pl c d i a b x y z r q : Int) {p : Nat} (hp : p < 4) (st : Bool) : text_shown_pair_147.f 1000 pl c d i a b x y z r q (p : Int) st = some (ba (pairT pl p (if st then af else sp))) := by
  unfold text_shown_pair_147.f pairT
  rw [goOn, goName]
  simp only [Let, Option.bind_some]
  rcases (by omega : p = 0 ∨ p = 1 ∨ p = 2 ∨ p = 3) with rfl | rfl | rfl | rfl <;> cases onT pl <;> cases st <;> rfl
theorem goHl (pl c d i a b x y z r q : Int) : text_shown_hl_146.f 1000 pl c d i a b x y z r q = some (ba (pairT pl 2 sp)) := by
  unfold text_shown_hl_146.f
  rw [show (2 : Int) = ((2 : Nat) : Int) from rfl, goPair _ _ _ _ _ _ _ _ _ _ _ (by omega)]; rfl
end Go.Proofs.YtbcepghanbkncaaGreatDoor.LiL.Tx
