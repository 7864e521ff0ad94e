/- The engine's texts: plain laws on texts as lists of bytes, and numerals to the bases 10 and 16. -/
import Derived.Test.YtbcepghanbkncaaGreatDoorEngPure
import Derived.Test.YtbcepghanbkncaaGreatDoorEngLib
set_option linter.unusedVariables false
set_option linter.unusedSimpArgs false
namespace Go.Eng
open Go.RowKit
def ba (l : List UInt8) : ByteArray := ⟨l.toArray⟩
theorem ba_size (l : List UInt8) : (ba l).size = l.length := by simp [ba, ByteArray.size]
theorem ba_list (l : List UInt8) : (ba l).data.toList = l := rfl
theorem strOf_ba (xs : List Int) : strOf xs = ba (xs.map fun n => UInt8.ofNat n.toNat) := by
  have key : ∀ (xs : List Int) (l : List UInt8), xs.foldl (fun r n => r.push (UInt8.ofNat n.toNat)) (ba l) = ba (l ++ xs.map fun n => UInt8.ofNat n.toNat) := by
    intro xs
    induction xs with
    | nil => intro l; simp
    | cons x xs ih =>
      intro l
      rw [List.foldl_cons]
      have : (ba l).push (UInt8.ofNat x.toNat) = ba (l ++ [UInt8.ofNat x.toNat]) := by simp [ba, ByteArray.push]
      rw [this, ih]
      simp
  exact key xs []
end Go.Eng
