/- Text: any instruction's text, of the program and of the reference, is one list of bytes. -/
import Derived.Test.YtbcepghanbkncaaGreatDoorLiLTxLibD
set_option linter.unusedVariables false
set_option linter.unusedSimpArgs false
namespace Go.Proofs.YtbcepghanbkncaaGreatDoor.LiL.Tx
open Go.RowKit Go.Eng
def hxT (k : Nat) : List UInt8 := hexT (k : Int) 2
theorem hex2 {k : Int} (h : 0 ≤ k ∧ k < 64) : text_Hex_37.f 1000 k 2 = some (ba (hxT k.toNat)) := by
  rw [goHex (by unfold i64; omega)]; unfold hxT; rw [show ((k.toNat : Nat) : Int) = k by omega]
theorem hex2r {k : Int} (h : 0 ≤ k ∧ k < 64) : charabancref09_Hex_43.f 1000 k 2 = some (ba (hxT k.toNat)) := by
  rw [refHex (by unfold i64; omega)]; unfold hxT; rw [show ((k.toNat : Nat) : Int) = k by omega]
theorem reg0 (k : Nat) (h : k < 8) : charabancref09_reg_71.f 1000 0 0 0 0 0 0 (k : Int) = some (ba (regL k)) := by
  rw [refReg (by omega) (by omega) (by omega) (by omega) h]; rfl
theorem prL_eq (p : Nat) : pairT 0 p sp = prL p := by
  unfold pairT
  rw [if_neg (by rintro ⟨-, h⟩; exact absurd h (by decide))]; rfl
section
variable {pl c d imm a b : Int}
theorem goP (hc : 0 ≤ c ∧ c < 256) (hd : 0 ≤ d ∧ d < 256) (hi : 0 ≤ imm ∧ imm < 65536) : GoP pl c d imm a b (fun p => pairT pl p sp) (fun p => pairT pl p af) (regT pl c d) hxT (nT imm) (nnT imm) (toT imm) where
  gN := fun _ _ _ _ _ => goN hi.1 hi.2 _ _ _ _ _ _ _ _ _ _
  gNN := fun _ _ _ _ _ => goNN hi.1 hi.2 _ _ _ _ _ _ _ _ _ _
  gTO := fun _ _ _ _ _ => goTo hi.1 hi.2 _ _ _ _ _ _ _ _ _ _
  gR := fun x y z p q k hk => by
    have := goReg hc.1 hc.2 hd.1 hd.2 (k := k.toNat) (by omega) pl imm a b x y z p q
    rwa [show ((k.toNat : Nat) : Int) = k by omega] at this
  gP := fun x y z r q p hp => by
    have := goPair pl c d imm a b x y z r q (p := p.toNat) (by omega) false
    rwa [show ((p.toNat : Nat) : Int) = p by omega] at this
  gA := fun x y z r q p hp => by
    have := goPair pl c d imm a b x y z r q (p := p.toNat) (by omega) true
    rwa [show ((p.toNat : Nat) : Int) = p by omega] at this
  gH := fun _ _ _ _ _ => goHl _ _ _ _ _ _ _ _ _ _ _
  gX := fun k hk => hex2 hk
theorem refP (hc : 0 ≤ c ∧ c < 256) (hd : 0 ≤ d ∧ d < 256) (hi : 0 ≤ imm ∧ imm < 65536) : RefP pl c d imm a b regL prL (fun p => pairT pl p sp) (fun p => pairT pl p af) (regT pl c d) hxT (nT imm) (nnT imm) (toT imm) where
  gN := refN hi.1 _ _ _ _ _
  gNN := refNN hi.1 hi.2 _ _ _ _ _
  gTO := refTo hi.1 _ _ _ _ _
  gR := fun k hk => by
    have := refReg hc.1 hc.2 hd.1 hd.2 (k := k.toNat) (by omega) pl imm a b
    rwa [show ((k.toNat : Nat) : Int) = k by omega] at this
  gP := fun p hp => by
    have := refPair pl c d imm a b (p := p.toNat) (by omega) sp
    rwa [show ((p.toNat : Nat) : Int) = p by omega] at this
  gA := fun p hp => by
    have := refPair pl c d imm a b (p := p.toNat) (by omega) af
    rwa [show ((p.toNat : Nat) : Int) = p by omega] at this
  gX := fun k hk => hex2r hk
  gR0 := fun k hk => by
    have := reg0 k.toNat (by omega)
    rwa [show ((k.toNat : Nat) : Int) = k by omega] at this
  gP0 := fun p hp => by
    have := refPair 0 0 0 0 0 0 (p := p.toNat) (by omega) sp
    rwa [show ((p.toNat : Nat) : Int) = p by omega, prL_eq] at this
theorem shortP : Short (fun p => pairT pl p sp) (fun p => pairT pl p af) (regT pl c d) hxT (nT imm) (nnT imm) (toT imm) where
  l1 := by have := n_len imm; omega
  l2 := by have := nn_len imm; omega
  l3 := by have := to_len imm; omega
  lr := fun k hk => by have := reg_len pl c d k hk; omega
  lp := fun k hk => by have := pair_len pl k sp hk (by decide); omega
  la := fun k hk => by have := pair_len pl k af hk (by decide); omega
  lx := fun k => by have := hexT_len (k : Int) 2; unfold hxT; omega
end
def quarT (rp ra rg hx : Nat → List UInt8) (N NN TO : List UInt8) (x y z : Nat) : List UInt8 :=
  if x = 0 then lowT rp rg N NN TO y z else if x = 1 then movesT rg y z else if x = 2 then sumsT rg y z else highT rp ra hx N NN y z
def edT (NN : List UInt8) (x y z : Nat) : List UInt8 := if x = 1 then oneT regL prL NN y z else if x = 2 then twoT y z else [110, 111, 112, 42]
def showT (pl c d imm : Int) : List UInt8 :=
  if pl = 0 ∨ pl = 3 ∨ pl = 4 then quarT (fun p => pairT pl p sp) (fun p => pairT pl p af) (regT pl c d) hxT (nT imm) (nnT imm) (toT imm) (c / 64).toNat (c / 8 % 8).toNat (c % 8).toNat
  else if pl = 2 then edT (nnT imm) (c / 64).toNat (c / 8 % 8).toNat (c % 8).toNat
  else if pl = 1 ∨ pl = 5 ∨ pl = 6 then bitT (ixT pl d) pl (c / 64).toNat (c / 8 % 8).toNat (c % 8).toNat
  else [63]
theorem goShow {pl c d imm a b : Int} (hc : 0 ≤ c ∧ c < 256) (hd : 0 ≤ d ∧ d < 256) (hi : 0 ≤ imm ∧ imm < 65536) : text_Show_63.f 1000 pl c d imm a b = some (ba (showT pl c d imm)) := by
  have G := goP (pl := pl) (a := a) (b := b) hc hd hi
  have L := shortP (pl := pl) (c := c) (d := d) (imm := imm)
  unfold text_Show_63.f text_of_93.f showT
  rw [goFields hc.1 hc.2, Option.bind_some, Option.bind_some]
  have hx : 0 ≤ c / 64 ∧ c / 64 < 4 := by omega
  have hy : 0 ≤ c / 8 % 8 ∧ c / 8 % 8 < 8 := by omega
  have hz : 0 ≤ c % 8 ∧ c % 8 < 8 := by omega
  have gI := goIx (d := d) pl hd.1 hd.2
  have lI := ix_len pl d
  generalize c / 64 = x at *; generalize c / 8 % 8 = y at *; generalize c % 8 = z at *
  generalize (fun p => pairT pl p sp) = rp at *; generalize (fun p => pairT pl p af) = ra at *; generalize regT pl c d = rg at *
  generalize nT imm = N at *; generalize nnT imm = NN at *; generalize toT imm = TO at *; generalize hxT = hx' at *; generalize ixT pl d = IX at *
  simp only [Let]
  have b1 : ∀ o : Option ByteArray, (o.bind fun t => some t) = o := fun o => by cases o <;> rfl
  simp only [b1]
  by_cases h0 : pl = 0 ∨ pl = 3 ∨ pl = 4
  · rw [if_pos h0]
    have t : ∀ {α : Type} (A B : α), (cond (pl == 0) (cond true A B) (cond (pl == 3) (cond true A B) (cond (pl == 4) A B))) = A := by
      intro α A B; rcases h0 with rfl | rfl | rfl <;> rfl
    rw [t]
    unfold quarT
    rcases (by omega : x = 0 ∨ x = 1 ∨ x = 2 ∨ x = 3) with rfl | rfl | rfl | rfl
    · exact goLow G L hy hz
    · exact goMoves G L hy hz
    · exact goSums G L hy hz
    · exact goHigh G L hy hz
  · rw [if_neg h0]
    have t : ∀ {α : Type} (A B : α), (cond (pl == 0) (cond true A B) (cond (pl == 3) (cond true A B) (cond (pl == 4) A B))) = B := by
      intro α A B; rw [show (pl == 0) = false by simp; omega, show (pl == 3) = false by simp; omega, show (pl == 4) = false by simp; omega]; rfl
    rw [t]
    by_cases h2 : pl = 2
    · rw [if_pos h2, show (pl == 2) = true by simpa using h2, cond_t]
      unfold edT
      rcases (by omega : x = 0 ∨ x = 1 ∨ x = 2 ∨ x = 3) with rfl | rfl | rfl | rfl
      · exact goNop (by omega) _ _ _ _ _ _ _ _ _ _
      · exact goOne G L hy hz
      · exact goTwo G L hy hz
      · exact goNop (by omega) _ _ _ _ _ _ _ _ _ _
    · rw [if_neg h2, show (pl == 2) = false by simpa using h2, cond_f]
      by_cases h5 : pl = 1 ∨ pl = 5 ∨ pl = 6
      · rw [if_pos h5]
        have t : ∀ {α : Type} (A B : α), (cond (pl == 1) (cond true A B) (cond (pl == 5) (cond true A B) (cond (pl == 6) A B))) = A := by
          intro α A B; rcases h5 with rfl | rfl | rfl <;> rfl
        rw [t]
        exact goBit gI (by omega) hx hy hz
      · rw [if_neg h5, show (pl == 1) = false by simp; omega, show (pl == 5) = false by simp; omega, show (pl == 6) = false by simp; omega]; rfl
theorem refShow {pl c d imm a b : Int} (hc : 0 ≤ c ∧ c < 256) (hd : 0 ≤ d ∧ d < 256) (hi : 0 ≤ imm ∧ imm < 65536) : charabancref09_Show_42.f 1000 pl c d imm a b = some (ba (showT pl c d imm)) := by
  have G := refP (pl := pl) (a := a) (b := b) hc hd hi
  have L := shortP (pl := pl) (c := c) (d := d) (imm := imm)
  unfold charabancref09_Show_42.f showT
  rw [refFields hc.1 hc.2, Option.bind_some]
  have hx : 0 ≤ c / 64 ∧ c / 64 < 4 := by omega
  have hy : 0 ≤ c / 8 % 8 ∧ c / 8 % 8 < 8 := by omega
  have hz : 0 ≤ c % 8 ∧ c % 8 < 8 := by omega
  have gI := refIx (d := d) pl hd.1 hd.2
  have lI := ix_len pl d
  generalize c / 64 = x at *; generalize c / 8 % 8 = y at *; generalize c % 8 = z at *
  generalize (fun p => pairT pl p sp) = rp at *; generalize (fun p => pairT pl p af) = ra at *; generalize regT pl c d = rg at *
  generalize nT imm = N at *; generalize nnT imm = NN at *; generalize toT imm = TO at *; generalize hxT = hx' at *; generalize ixT pl d = IX at *
  simp only [Let]
  have b1 : ∀ o : Option ByteArray, (o.bind fun t => some t) = o := fun o => by cases o <;> rfl
  simp only [b1]
  by_cases h5 : pl = 1 ∨ pl = 5 ∨ pl = 6
  · rw [if_neg (by omega), if_neg (by omega), if_pos h5]
    have t : ∀ {α : Type} (A B : α), (cond (pl == 1) (cond true A B) (cond (pl == 5) (cond true A B) (cond (pl == 6) A B))) = A := by
      intro α A B; rcases h5 with rfl | rfl | rfl <;> rfl
    rw [t]
    exact refBit gI (by omega) reg0 hx hy hz
  have t : ∀ {α : Type} (A B : α), (cond (pl == 1) (cond true A B) (cond (pl == 5) (cond true A B) (cond (pl == 6) A B))) = B := by
    intro α A B; rw [show (pl == 1) = false by simp; omega, show (pl == 5) = false by simp; omega, show (pl == 6) = false by simp; omega]; rfl
  rw [t]
  by_cases h2 : pl = 2
  · rw [if_neg (by omega), if_pos h2, show (pl == 2) = true by simpa using h2, cond_t]
    unfold edT
    rcases (by omega : x = 0 ∨ x = 1 ∨ x = 2 ∨ x = 3) with rfl | rfl | rfl | rfl
    · exact refNop (by omega) _ _ _ _ _ _ _ _ _ _
    · exact refOne G L hy hz (fun k hk => by have := regL_len k hk; omega) (fun k hk => by have := pair_len 0 k sp hk (by decide); rw [prL_eq] at this; omega)
    · exact refTwo G L hy hz
    · exact refNop (by omega) _ _ _ _ _ _ _ _ _ _
  · rw [show (pl == 2) = false by simpa using h2, cond_f]
    by_cases h0 : pl = 0 ∨ pl = 3 ∨ pl = 4
    · rw [if_pos h0]
      have t : ∀ {α : Type} (A B : α), (cond (pl == 0) (cond true A B) (cond (pl == 3) (cond true A B) (cond (pl == 4) A B))) = A := by
        intro α A B; rcases h0 with rfl | rfl | rfl <;> rfl
      rw [t]
      unfold quarT
      obtain ⟨l1, l2, l3, lr, lp, la, lx⟩ := id L
      have hry := lr y.toNat (by omega); have hrz := lr z.toNat (by omega)
      rcases (by omega : x = 0 ∨ x = 1 ∨ x = 2 ∨ x = 3) with rfl | rfl | rfl | rfl
      · exact refLow G L hy hz
      · show (cond (y == 6) _ _) = some (ba (movesT rg y.toNat z.toNat))
        rw [G.gR y hy, G.gR z hz, Option.bind_some]
        unfold movesT
        generalize rg y.toNat = RY at *; generalize rg z.toNat = RZ at *
        rw [show (⟨#[108, 100, 32]⟩ : ByteArray) = ba [108, 100, 32] from rfl, show (⟨#[44]⟩ : ByteArray) = ba [44] from rfl, Option.bind_some]
        simp only [ba_app]
        rw [cat_of (by rw [ba_size, ba_size, List.length_cons, List.length_cons, List.length_cons, List.length_nil]; omega), cat_of (by rw [ba_size, ba_size, List.length_append, List.length_cons, List.length_cons, List.length_cons, List.length_nil, List.length_cons, List.length_nil]; omega),
          cat_of (by rw [ba_size, ba_size, List.length_append, List.length_append, List.length_cons, List.length_cons, List.length_cons, List.length_nil, List.length_cons, List.length_nil]; omega)]
        by_cases e6 : y = 6
        · by_cases f6 : z = 6
          · rw [show (y == 6) = true by simpa using e6, show (z == 6) = true by simpa using f6, if_pos (by omega)]; rfl
          · rw [show (y == 6) = true by simpa using e6, show (z == 6) = false by simpa using f6, if_neg (by omega)]; rfl
        · rw [show (y == 6) = false by simpa using e6, if_neg (by omega)]; rfl
      · show ((charabancref09_sums_72.f 1000).bind fun t86 => (charabancref09_reg_71.f 1000 pl c d imm a b z).bind fun t93 => cond (inR y t86.length) (cond (mayCat (rdD t86 y).size t93.size) (some (rdD t86 y ++ t93)) none) none) = some (ba (sumsT rg y.toNat z.toNat))
        rw [G.gR z hz]
        unfold sumsT charabancref09_sums_72.f
        generalize rg z.toNat = RZ at *
        rw [Option.bind_some, Option.bind_some]
        rcases (by omega : y = 0 ∨ y = 1 ∨ y = 2 ∨ y = 3 ∨ y = 4 ∨ y = 5 ∨ y = 6 ∨ y = 7) with rfl | rfl | rfl | rfl | rfl | rfl | rfl | rfl
        all_goals
          refine (cond_of (inR_t (n := 8) (by omega)) _ _).trans ?_
          refine (cond_of (cat_of (by rw [ba_size]; simp only [rd_0, rd_1, rd_2, rd_3, rd_4, rd_5, rd_6, rd_7, mk_ba, ba_size, List.length_cons, List.length_nil]; omega)) _ _).trans ?_
          simp only [rd_0, rd_1, rd_2, rd_3, rd_4, rd_5, rd_6, rd_7, mk_ba, ba_app]
          rfl
      · exact refHigh G L hy hz
    · rw [if_neg h0, if_neg h2, if_neg h5, show (pl == 0) = false by simp; omega, show (pl == 3) = false by simp; omega, show (pl == 4) = false by simp; omega]; rfl
end Go.Proofs.YtbcepghanbkncaaGreatDoor.LiL.Tx
