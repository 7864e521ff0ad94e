/- Lines of a listing: lengths of texts, ranges of what is decoded. -/
import Derived.Test.YtbcepghanbkncaaGreatDoorLiLTxLibE
import Derived.Test.YtbcepghanbkncaaGreatDoorLiLDcLibD
import Derived.Test.YtbcepghanbkncaaGreatDoorLiLCeLibD
set_option linter.unusedVariables false
set_option linter.unusedSimpArgs false
namespace Go.Proofs.YtbcepghanbkncaaGreatDoor.LiL.St
open Go.RowKit Go.Eng Go.Proofs.YtbcepghanbkncaaGreatDoor.LiL
theorem getD_le {L : List (List UInt8)} {B : Nat} (h : ∀ x ∈ L, x.length ≤ B) (i : Nat) : (L.getD i []).length ≤ B := by
  rw [List.getD_eq_getElem?_getD]
  cases hx : L[i]? with
  | none => exact Nat.zero_le _
  | some x => exact h x (List.mem_of_getElem? hx)
theorem cond_le (i : Nat) : (Tx.condL.getD i []).length ≤ 5 := getD_le (by decide) i
theorem sum_le (i : Nat) : (Tx.sumL.getD i []).length ≤ 10 := getD_le (by decide) i
theorem turn_le (i : Nat) : (Tx.turnL.getD i []).length ≤ 10 := getD_le (by decide) i
theorem low_len {rp ra rg hx : Nat → List UInt8} {N NN TO : List UInt8} (S : Tx.Short rp ra rg hx N NN TO) {y z : Nat} (hy : y < 8) (hz : z < 8) : (Tx.lowT rp rg N NN TO y z).length ≤ 300 := by
  have h1 := S.l1; have h2 := S.l2; have h3 := S.l3; have r := S.lr y hy; have p := S.lp (y / 2) (by omega); have p2 := S.lp 2 (by omega)
  have c := cond_le (y - 4); have t := turn_le y
  unfold Tx.lowT
  split
  · split
    · simp only [List.length_append, List.length_cons, List.length_nil]; omega
    · exact getD_le (B := 300) (by intro x hx; simp only [List.mem_cons, List.not_mem_nil, or_false] at hx; rcases hx with rfl | rfl | rfl | rfl <;> simp only [List.length_append, List.length_cons, List.length_nil] <;> omega) y
  · split <;> simp only [List.length_append, List.length_cons, List.length_nil] <;> omega
  · exact getD_le (B := 300) (by intro x hx; simp only [List.mem_cons, List.not_mem_nil, or_false] at hx; rcases hx with rfl | rfl | rfl | rfl | rfl | rfl | rfl | rfl <;> simp only [List.length_append, List.length_cons, List.length_nil] <;> omega) y
  · split <;> simp only [List.length_append, List.length_cons, List.length_nil] <;> omega
  · simp only [List.length_append, List.length_cons, List.length_nil]; omega
  · simp only [List.length_append, List.length_cons, List.length_nil]; omega
  · simp only [List.length_append, List.length_cons, List.length_nil]; omega
  · omega
theorem moves_len {rp ra rg hx : Nat → List UInt8} {N NN TO : List UInt8} (S : Tx.Short rp ra rg hx N NN TO) {y z : Nat} (hy : y < 8) (hz : z < 8) : (Tx.movesT rg y z).length ≤ 300 := by
  have r := S.lr y hy; have r2 := S.lr z hz
  unfold Tx.movesT
  split <;> simp only [List.length_append, List.length_cons, List.length_nil] <;> omega
theorem sums_len {rp ra rg hx : Nat → List UInt8} {N NN TO : List UInt8} (S : Tx.Short rp ra rg hx N NN TO) {y z : Nat} (hz : z < 8) : (Tx.sumsT rg y z).length ≤ 300 := by
  have r2 := S.lr z hz; have := sum_le y
  unfold Tx.sumsT
  simp only [List.length_append]; omega
theorem high_len {rp ra rg hx : Nat → List UInt8} {N NN TO : List UInt8} (S : Tx.Short rp ra rg hx N NN TO) {y z : Nat} (hy : y < 8) (hz : z < 8) : (Tx.highT rp ra hx N NN y z).length ≤ 300 := by
  have h1 := S.l1; have h2 := S.l2; have h3 := S.l3; have p := S.la (y / 2) (by omega); have p2 := S.lp 2 (by omega); have x8 := S.lx (8 * y)
  have c := cond_le y; have t := sum_le y
  unfold Tx.highT
  split
  · simp only [List.length_append, List.length_cons, List.length_nil]; omega
  · split
    · simp only [List.length_append, List.length_cons, List.length_nil]; omega
    · exact getD_le (B := 300) (by intro x hx; simp only [List.mem_cons, List.not_mem_nil, or_false] at hx; rcases hx with rfl | rfl | rfl | rfl <;> simp only [List.length_append, List.length_cons, List.length_nil] <;> omega) _
  · simp only [List.length_append, List.length_cons, List.length_nil]; omega
  · exact getD_le (B := 300) (by intro x hx; simp only [List.mem_cons, List.not_mem_nil, or_false] at hx; rcases hx with rfl | rfl | rfl | rfl | rfl | rfl | rfl | rfl <;> simp only [List.length_append, List.length_cons, List.length_nil] <;> omega) y
  · simp only [List.length_append, List.length_cons, List.length_nil]; omega
  · split
    · simp only [List.length_append, List.length_cons, List.length_nil]; omega
    · split <;> simp only [List.length_append, List.length_cons, List.length_nil] <;> omega
  · simp only [List.length_append, List.length_cons, List.length_nil]; omega
  · simp only [List.length_append, List.length_cons, List.length_nil]; omega
theorem pr_le (p : Nat) : (Tx.prL p).length ≤ 5 := getD_le (by decide) p
theorem ed_len {NN : List UInt8} (h : NN.length ≤ 50) {x y z : Nat} (hy : y < 8) (hz : z < 8) : (Tx.edT NN x y z).length ≤ 300 := by
  have r := Tx.regL_len y hy; have p := pr_le (y / 2)
  unfold Tx.edT
  split
  · unfold Tx.oneT
    split
    · split <;> simp only [List.length_append, List.length_cons, List.length_nil] <;> omega
    · split <;> simp only [List.length_append, List.length_cons, List.length_nil] <;> omega
    · split <;> simp only [List.length_append, List.length_cons, List.length_nil] <;> omega
    · split <;> simp only [List.length_append, List.length_cons, List.length_nil] <;> omega
    · simp
    · split <;> simp
    · have := getD_le (L := [[48], [48], [49], [50]]) (B := 5) (by decide) (y % 4)
      simp only [List.length_append, List.length_cons, List.length_nil]; omega
    · have := getD_le (L := [[108, 100, 32, 105, 44, 97], [108, 100, 32, 114, 44, 97], [108, 100, 32, 97, 44, 105], [108, 100, 32, 97, 44, 114], [114, 114, 100], [114, 108, 100], [110, 111, 112, 42], [110, 111, 112, 42]]) (B := 10) (by decide) y
      omega
  · split
    · unfold Tx.twoT
      have a1 := getD_le (L := [[108, 100], [99, 112], [105, 110], [111, 116]]) (B := 5) (by decide) z
      have a2 := getD_le (L := [[105], [100], [105, 114], [100, 114]]) (B := 5) (by decide) (y - 4)
      split
      · rw [List.length_append]
        split
        · simp only [List.length_cons, List.length_nil]; omega
        · omega
      · simp
    · simp
theorem show_len (pl c d imm : Int) (hc : 0 ≤ c ∧ c < 256) : (Tx.showT pl c d imm).length ≤ 300 := by
  have S := Tx.shortP (pl := pl) (c := c) (d := d) (imm := imm)
  have hy : (c / 8 % 8).toNat < 8 := by omega
  have hz : (c % 8).toNat < 8 := by omega
  unfold Tx.showT
  split
  · unfold Tx.quarT
    split
    · exact low_len S hy hz
    · split
      · exact moves_len S hy hz
      · split
        · exact sums_len S hz
        · exact high_len S hy hz
  · split
    · exact ed_len S.l2 hy hz
    · split
      · unfold Tx.bitT
        have w := Tx.what_len (show (Tx.ixT pl d).length ≤ 50 by have := Tx.ix_len pl d; omega) pl (c / 64).toNat (c % 8).toNat hz
        have n := numL_len 10 19 (c / 8 % 8).toNat
        have s := getD_le (L := Tx.shL) (B := 5) (by decide) (c / 8 % 8).toNat
        have a := getD_le (L := Tx.askL) (B := 5) (by decide) (c / 64).toNat
        split
        · rw [List.length_append]; omega
        · simp only [List.length_append, List.length_cons, List.length_nil]; omega
      · simp
def inP (r : Dc.Res) : Prop := (0 ≤ r.2.1 ∧ r.2.1 < 256) ∧ (0 ≤ r.2.2.1 ∧ r.2.2.1 < 256) ∧ (0 ≤ r.2.2.2.1 ∧ r.2.2.2.1 < 65536)
theorem fin_in {p c d n skip : Int} {t : List Int} {fl : Bool} (hc : 0 ≤ c ∧ c ≤ 255) (hd : 0 ≤ d ∧ d ≤ 255) (ht : Dc.By t) : inP (Dc.fin p c d n skip t fl) := by
  have h0 := ht.head
  have h1 := ht.tail.head
  unfold Dc.fin
  split
  · refine ⟨⟨hc.1, by show c < 256; omega⟩, ⟨hd.1, by show d < 256; omega⟩, ?_⟩
    show 0 ≤ Dc.immT (Dc.sz p c) t ∧ Dc.immT (Dc.sz p c) t < 65536
    unfold Dc.immT
    split
    · omega
    · split <;> omega
  · unfold inP; decide
theorem Nx_in {b : List Int} (hb : Dc.By b) : inP (Dc.Nx b) := by
  have hr : Dc.By (Dc.restP b) := by rw [Dc.rest_eq]; exact hb.drop _
  have h0 := hr.head; have h1 := hr.tail.head; have h2 := hr.tail.tail.head
  unfold Dc.Nx
  split
  · exact fin_in h1 (by decide) hr.tail.tail
  · split
    · split
      · exact fin_in h1 (by decide) hr.tail.tail
      · exact fin_in h2 h1 hr.tail.tail.tail
    · split
      · exact fin_in h0 (by decide) hr.tail
      · split
        · exact fin_in h0 h1 hr.tail.tail
        · exact fin_in h0 (by decide) hr.tail
end Go.Proofs.YtbcepghanbkncaaGreatDoor.LiL.St
