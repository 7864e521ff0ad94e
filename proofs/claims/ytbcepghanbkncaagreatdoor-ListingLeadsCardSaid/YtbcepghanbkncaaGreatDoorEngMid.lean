/- The engine's cuts with a bound on what is behind them, and texts as rows of bytes. -/
import Derived.Test.YtbcepghanbkncaaGreatDoorEngSort
import Derived.Laws.IdiomStrings
set_option linter.unusedVariables false
set_option linter.unusedSimpArgs false
set_option linter.unusedSectionVars false
namespace Go.Eng
open Go.RowKit
section
variable {P : Program} {F : Fun P} {k : List It} {e e' : Env} {w w' w0 ws : World} {R : Ending → World → Prop} {n i m c : Nat} {M0 : Nat → Prop} {H : List Chunk} {K : Env → World → Prop} {T : List Nat} {l : List Nat}
def bytesI (s : ByteArray) : List Int := s.data.toList.map fun b => (b.toNat : Int)
theorem bytesI_len (s : ByteArray) : (bytesI s).length = s.size := by unfold bytesI; rw [List.length_map, Array.length_toList]; rfl
def bytesTy2 (P : Program) (s d : TypeId) : Option TypeId := match P.underlying s, P.underlying d with | some .string, some (.slice e) => (match P.underlying e with | some (.int .u8) => some e | _ => none) | _, _ => none
theorem OpE.bytesOf (d : Nat) (S D : TypeId) (s : ByteArray) (hH : Holds M0 w0 w H) (ho : opOk F n i e d = true) (hx : convOf F n i e = some (S, D, .string s)) (ht : (bytesTy2 P S D).isSome = true) (hs : Nat.ble s.size 140737488355328 = true)
    (hn : ∀ w' A c, Holds M0 w0 w' (H ++ [sl (Rp.int .u8) (.slice A (bytesI s).length c) (bytesI s)]) → Below w.heap.size w w' → K ((d, .slice A (bytesI s).length c) :: e) w') : OpE F n i e w K := by
  obtain ⟨E, hS, hD, hE⟩ : ∃ E, P.underlying S = some .string ∧ P.underlying D = some (.slice E) ∧ P.underlying E = some (.int .u8) := by
    unfold bytesTy2 at ht
    split at ht
    · next E h1 h2 =>
      split at ht
      · next h3 => exact ⟨E, h1, h2, h3⟩
      · cases ht
    · cases ht
  have hr := run_bytes_of_string (P := P) w S D E s hS hD hE
  have hge := grownCap_ge w s.size 0 E
  have hle := grownCap_le_maxLen w s.size 0 E (by have := Nat.le_of_ble_eq_true hs; unfold maxLen; omega)
  generalize grownCap w s.size 0 E = cap at hr hge hle
  generalize hW : w.drew.alloc (.cells (bytesRow s cap) E ((bytesRow s cap).size, (bytesRow s cap).size + 1)) = W at hr
  have hB : Below w.heap.size w W := by rw [← hW]; exact (Below.refl w.heap.size w).drew.alloc (Nat.le_refl _) _
  have hcell : W.heap[w.heap.size]? = some (.cells (bytesRow s cap) E ((bytesRow s cap).size, (bytesRow s cap).size + 1)) := by rw [← hW]; exact heap_alloc_new w.drew _
  have hsz : W.heap.size = w.heap.size + 1 := by rw [← hW]; simp
  have hH1 := hH.call hB
  have hnm : ¬ Mset M0 H w.heap.size := by
    rintro (hm | hm)
    · have := hH.old _ hm; have := hH.below.size; omega
    · have := (hH.mine _ hm).2; omega
  have hsl : Sl (Rp.int .u8) W (Mset M0 H) (.slice (some ⟨w.heap.size, 0, none⟩) (bytesI s).length cap) (bytesI s) := by
    refine ⟨_, cap, rfl, by rw [bytesI_len]; exact hge, hle, fun h => (by cases h), fun _ => ⟨w.heap.size, 0, rfl, by omega, hnm, fun j x hj => ⟨[.int .u8 x], rfl, fun q u hu => ?_⟩⟩⟩
    obtain ⟨rfl, rfl⟩ : q = 0 ∧ u = .int .u8 x := by
      cases q with
      | zero => simp at hu; exact ⟨rfl, hu.symm⟩
      | succ q => simp at hu
    unfold bytesI at hj
    rw [List.getElem?_map] at hj
    cases hd : s.data.toList[j]? with
    | none => rw [hd] at hj; cases hj
    | some y =>
      rw [hd] at hj
      simp only [Option.map_some, Option.some.injEq] at hj
      subst hj
      rw [Array.getElem?_toList] at hd
      have hj2 : j < s.data.size := (Array.getElem?_eq_some_iff.1 hd).1
      have : (bytesRow s cap)[j]? = some (.int .u8 (y.toNat : Int)) := by
        unfold bytesRow
        rw [Array.getElem?_append_left (by simpa using hj2)]
        simp [hd]
      simp [World.cell?, hcell, Rp.int, this]
  rw [← bytesI_len] at hr
  refine OpE.run d ho ?_ (hn W _ cap (hH1.addSl (Rp.int .u8) _ _ hsl) hB)
  unfold convOf at hx
  split at hx
  · next s' d' x hop =>
    simp only [Option.some.injEq, Prod.mk.injEq] at hx
    obtain ⟨rfl, rfl, hxv⟩ := hx
    unfold execOp
    simp [hop, hxv, hr]
  · cases hx
end
end Go.Eng
