/- Registers: pairs and halves of them, both. -/
import Derived.Test.YtajnhlkkbhobiaaDoorRegLibX
set_option linter.unusedVariables false
set_option linter.unusedSimpArgs false
set_option maxHeartbeats 4000000
namespace Go.Proofs.YtajnhlkkbhobiaaDoor.Reg
open Go.RowKit Go.Eng
theorem awake11 : charabanclaw11_awake_23.f 1000 = some true := by kernel_rfl
abbrev R20 : Type := Int × Int × Int × Int × Int × Int × Int × Int × Int × Int × Int × Int × Int × Int × Int × Bool × Bool × Bool × Bool × Int
def u16 (x : Int) : Prop := 0 ≤ x ∧ x ≤ 65535
def u8 (x : Int) : Prop := 0 ≤ x ∧ x ≤ 255
def okR (r : R20) : Prop := u16 r.1 ∧ u16 r.2.1 ∧ u16 r.2.2.1 ∧ u16 r.2.2.2.1 ∧ u16 r.2.2.2.2.2.2.2.2.1 ∧ u16 r.2.2.2.2.2.2.2.2.2.1 ∧ u16 r.2.2.2.2.2.2.2.2.2.2.1
def prV (r : R20) (p k : Int) : Int := if k = 0 then r.2.1 else if k = 1 then r.2.2.1 else if k = 2 then (if p = 3 then r.2.2.2.2.2.2.2.2.1 else if p = 4 then r.2.2.2.2.2.2.2.2.2.1 else r.2.2.2.1) else if k = 3 then r.2.2.2.2.2.2.2.2.2.2.1 else 0
def putV (r : R20) (p k w : Int) : R20 := if k = 0 then (r.1, w, r.2.2.1, r.2.2.2.1, r.2.2.2.2.1, r.2.2.2.2.2.1, r.2.2.2.2.2.2.1, r.2.2.2.2.2.2.2.1, r.2.2.2.2.2.2.2.2.1, r.2.2.2.2.2.2.2.2.2.1, r.2.2.2.2.2.2.2.2.2.2.1, r.2.2.2.2.2.2.2.2.2.2.2.1, r.2.2.2.2.2.2.2.2.2.2.2.2.1, r.2.2.2.2.2.2.2.2.2.2.2.2.2.1, r.2.2.2.2.2.2.2.2.2.2.2.2.2.2.1, r.2.2.2.2.2.2.2.2.2.2.2.2.2.2.2.1, r.2.2.2.2.2.2.2.2.2.2.2.2.2.2.2.2.1, r.2.2.2.2.2.2.2.2.2.2.2.2.2.2.2.2.2.1, r.2.2.2.2.2.2.2.2.2.2.2.2.2.2.2.2.2.2.1, r.2.2.2.2.2.2.2.2.2.2.2.2.2.2.2.2.2.2.2) else if k = 1 then (r.1, r.2.1, w, r.2.2.2.1, r.2.2.2.2.1, r.2.2.2.2.2.1, r.2.2.2.2.2.2.1, r.2.2.2.2.2.2.2.1, r.2.2.2.2.2.2.2.2.1, r.2.2.2.2.2.2.2.2.2.1, r.2.2.2.2.2.2.2.2.2.2.1, r.2.2.2.2.2.2.2.2.2.2.2.1, r.2.2.2.2.2.2.2.2.2.2.2.2.1, r.2.2.2.2.2.2.2.2.2.2.2.2.2.1, r.2.2.2.2.2.2.2.2.2.2.2.2.2.2.1, r.2.2.2.2.2.2.2.2.2.2.2.2.2.2.2.1, r.2.2.2.2.2.2.2.2.2.2.2.2.2.2.2.2.1, r.2.2.2.2.2.2.2.2.2.2.2.2.2.2.2.2.2.1, r.2.2.2.2.2.2.2.2.2.2.2.2.2.2.2.2.2.2.1, r.2.2.2.2.2.2.2.2.2.2.2.2.2.2.2.2.2.2.2) else if k = 2 then (if p = 3 then (r.1, r.2.1, r.2.2.1, r.2.2.2.1, r.2.2.2.2.1, r.2.2.2.2.2.1, r.2.2.2.2.2.2.1, r.2.2.2.2.2.2.2.1, w, r.2.2.2.2.2.2.2.2.2.1, r.2.2.2.2.2.2.2.2.2.2.1, r.2.2.2.2.2.2.2.2.2.2.2.1, r.2.2.2.2.2.2.2.2.2.2.2.2.1, r.2.2.2.2.2.2.2.2.2.2.2.2.2.1, r.2.2.2.2.2.2.2.2.2.2.2.2.2.2.1, r.2.2.2.2.2.2.2.2.2.2.2.2.2.2.2.1, r.2.2.2.2.2.2.2.2.2.2.2.2.2.2.2.2.1, r.2.2.2.2.2.2.2.2.2.2.2.2.2.2.2.2.2.1, r.2.2.2.2.2.2.2.2.2.2.2.2.2.2.2.2.2.2.1, r.2.2.2.2.2.2.2.2.2.2.2.2.2.2.2.2.2.2.2) else if p = 4 then (r.1, r.2.1, r.2.2.1, r.2.2.2.1, r.2.2.2.2.1, r.2.2.2.2.2.1, r.2.2.2.2.2.2.1, r.2.2.2.2.2.2.2.1, r.2.2.2.2.2.2.2.2.1, w, r.2.2.2.2.2.2.2.2.2.2.1, r.2.2.2.2.2.2.2.2.2.2.2.1, r.2.2.2.2.2.2.2.2.2.2.2.2.1, r.2.2.2.2.2.2.2.2.2.2.2.2.2.1, r.2.2.2.2.2.2.2.2.2.2.2.2.2.2.1, r.2.2.2.2.2.2.2.2.2.2.2.2.2.2.2.1, r.2.2.2.2.2.2.2.2.2.2.2.2.2.2.2.2.1, r.2.2.2.2.2.2.2.2.2.2.2.2.2.2.2.2.2.1, r.2.2.2.2.2.2.2.2.2.2.2.2.2.2.2.2.2.2.1, r.2.2.2.2.2.2.2.2.2.2.2.2.2.2.2.2.2.2.2) else (r.1, r.2.1, r.2.2.1, w, r.2.2.2.2.1, r.2.2.2.2.2.1, r.2.2.2.2.2.2.1, r.2.2.2.2.2.2.2.1, r.2.2.2.2.2.2.2.2.1, r.2.2.2.2.2.2.2.2.2.1, r.2.2.2.2.2.2.2.2.2.2.1, r.2.2.2.2.2.2.2.2.2.2.2.1, r.2.2.2.2.2.2.2.2.2.2.2.2.1, r.2.2.2.2.2.2.2.2.2.2.2.2.2.1, r.2.2.2.2.2.2.2.2.2.2.2.2.2.2.1, r.2.2.2.2.2.2.2.2.2.2.2.2.2.2.2.1, r.2.2.2.2.2.2.2.2.2.2.2.2.2.2.2.2.1, r.2.2.2.2.2.2.2.2.2.2.2.2.2.2.2.2.2.1, r.2.2.2.2.2.2.2.2.2.2.2.2.2.2.2.2.2.2.1, r.2.2.2.2.2.2.2.2.2.2.2.2.2.2.2.2.2.2.2)) else if k = 3 then (r.1, r.2.1, r.2.2.1, r.2.2.2.1, r.2.2.2.2.1, r.2.2.2.2.2.1, r.2.2.2.2.2.2.1, r.2.2.2.2.2.2.2.1, r.2.2.2.2.2.2.2.2.1, r.2.2.2.2.2.2.2.2.2.1, w, r.2.2.2.2.2.2.2.2.2.2.2.1, r.2.2.2.2.2.2.2.2.2.2.2.2.1, r.2.2.2.2.2.2.2.2.2.2.2.2.2.1, r.2.2.2.2.2.2.2.2.2.2.2.2.2.2.1, r.2.2.2.2.2.2.2.2.2.2.2.2.2.2.2.1, r.2.2.2.2.2.2.2.2.2.2.2.2.2.2.2.2.1, r.2.2.2.2.2.2.2.2.2.2.2.2.2.2.2.2.2.1, r.2.2.2.2.2.2.2.2.2.2.2.2.2.2.2.2.2.2.1, r.2.2.2.2.2.2.2.2.2.2.2.2.2.2.2.2.2.2.2) else r
def afV (r : R20) (w : Int) : R20 := (w, r.2.1, r.2.2.1, r.2.2.2.1, r.2.2.2.2.1, r.2.2.2.2.2.1, r.2.2.2.2.2.2.1, r.2.2.2.2.2.2.2.1, r.2.2.2.2.2.2.2.2.1, r.2.2.2.2.2.2.2.2.2.1, r.2.2.2.2.2.2.2.2.2.2.1, r.2.2.2.2.2.2.2.2.2.2.2.1, r.2.2.2.2.2.2.2.2.2.2.2.2.1, r.2.2.2.2.2.2.2.2.2.2.2.2.2.1, r.2.2.2.2.2.2.2.2.2.2.2.2.2.2.1, r.2.2.2.2.2.2.2.2.2.2.2.2.2.2.2.1, r.2.2.2.2.2.2.2.2.2.2.2.2.2.2.2.2.1, r.2.2.2.2.2.2.2.2.2.2.2.2.2.2.2.2.2.1, r.2.2.2.2.2.2.2.2.2.2.2.2.2.2.2.2.2.2.1, r.2.2.2.2.2.2.2.2.2.2.2.2.2.2.2.2.2.2.2)
def getV (r : R20) (p k : Int) : Int := if k = 7 then r.1 / 256 else if k < 0 ∨ k > 5 then 0 else if k % 2 = 0 then prV r p (k / 2) / 256 else prV r p (k / 2) % 256
def setV (r : R20) (p k b : Int) : R20 := if k = 7 then afV r (256 * b + r.1 % 256) else if k < 0 ∨ k > 5 then r else if k % 2 = 0 then putV r p (k / 2) (256 * b + prV r p (k / 2) % 256) else putV r p (k / 2) (prV r p (k / 2) / 256 * 256 + b)
def GetR (r : R20) (p k : Int) : Option Int := regs_Get_24.f 1000 r.1 r.2.1 r.2.2.1 r.2.2.2.1 r.2.2.2.2.1 r.2.2.2.2.2.1 r.2.2.2.2.2.2.1 r.2.2.2.2.2.2.2.1 r.2.2.2.2.2.2.2.2.1 r.2.2.2.2.2.2.2.2.2.1 r.2.2.2.2.2.2.2.2.2.2.1 r.2.2.2.2.2.2.2.2.2.2.2.1 r.2.2.2.2.2.2.2.2.2.2.2.2.1 r.2.2.2.2.2.2.2.2.2.2.2.2.2.1 r.2.2.2.2.2.2.2.2.2.2.2.2.2.2.1 r.2.2.2.2.2.2.2.2.2.2.2.2.2.2.2.1 r.2.2.2.2.2.2.2.2.2.2.2.2.2.2.2.2.1 r.2.2.2.2.2.2.2.2.2.2.2.2.2.2.2.2.2.1 r.2.2.2.2.2.2.2.2.2.2.2.2.2.2.2.2.2.2.1 r.2.2.2.2.2.2.2.2.2.2.2.2.2.2.2.2.2.2.2 p k
def GetQ (r : R20) (p k : Int) : Option Int := charabancref11_Get_25.f 1000 r.1 r.2.1 r.2.2.1 r.2.2.2.1 r.2.2.2.2.1 r.2.2.2.2.2.1 r.2.2.2.2.2.2.1 r.2.2.2.2.2.2.2.1 r.2.2.2.2.2.2.2.2.1 r.2.2.2.2.2.2.2.2.2.1 r.2.2.2.2.2.2.2.2.2.2.1 r.2.2.2.2.2.2.2.2.2.2.2.1 r.2.2.2.2.2.2.2.2.2.2.2.2.1 r.2.2.2.2.2.2.2.2.2.2.2.2.2.1 r.2.2.2.2.2.2.2.2.2.2.2.2.2.2.1 r.2.2.2.2.2.2.2.2.2.2.2.2.2.2.2.1 r.2.2.2.2.2.2.2.2.2.2.2.2.2.2.2.2.1 r.2.2.2.2.2.2.2.2.2.2.2.2.2.2.2.2.2.1 r.2.2.2.2.2.2.2.2.2.2.2.2.2.2.2.2.2.2.1 r.2.2.2.2.2.2.2.2.2.2.2.2.2.2.2.2.2.2.2 p k
def PairR (r : R20) (p k : Int) : Option Int := regs_Pair_26.f 1000 r.1 r.2.1 r.2.2.1 r.2.2.2.1 r.2.2.2.2.1 r.2.2.2.2.2.1 r.2.2.2.2.2.2.1 r.2.2.2.2.2.2.2.1 r.2.2.2.2.2.2.2.2.1 r.2.2.2.2.2.2.2.2.2.1 r.2.2.2.2.2.2.2.2.2.2.1 r.2.2.2.2.2.2.2.2.2.2.2.1 r.2.2.2.2.2.2.2.2.2.2.2.2.1 r.2.2.2.2.2.2.2.2.2.2.2.2.2.1 r.2.2.2.2.2.2.2.2.2.2.2.2.2.2.1 r.2.2.2.2.2.2.2.2.2.2.2.2.2.2.2.1 r.2.2.2.2.2.2.2.2.2.2.2.2.2.2.2.2.1 r.2.2.2.2.2.2.2.2.2.2.2.2.2.2.2.2.2.1 r.2.2.2.2.2.2.2.2.2.2.2.2.2.2.2.2.2.2.1 r.2.2.2.2.2.2.2.2.2.2.2.2.2.2.2.2.2.2.2 p k
def PairQ (r : R20) (p k : Int) : Option Int := charabancref11_Pair_27.f 1000 r.1 r.2.1 r.2.2.1 r.2.2.2.1 r.2.2.2.2.1 r.2.2.2.2.2.1 r.2.2.2.2.2.2.1 r.2.2.2.2.2.2.2.1 r.2.2.2.2.2.2.2.2.1 r.2.2.2.2.2.2.2.2.2.1 r.2.2.2.2.2.2.2.2.2.2.1 r.2.2.2.2.2.2.2.2.2.2.2.1 r.2.2.2.2.2.2.2.2.2.2.2.2.1 r.2.2.2.2.2.2.2.2.2.2.2.2.2.1 r.2.2.2.2.2.2.2.2.2.2.2.2.2.2.1 r.2.2.2.2.2.2.2.2.2.2.2.2.2.2.2.1 r.2.2.2.2.2.2.2.2.2.2.2.2.2.2.2.2.1 r.2.2.2.2.2.2.2.2.2.2.2.2.2.2.2.2.2.1 r.2.2.2.2.2.2.2.2.2.2.2.2.2.2.2.2.2.2.1 r.2.2.2.2.2.2.2.2.2.2.2.2.2.2.2.2.2.2.2 p k
def SetR (r : R20) (p k b : Int) : Option R20 := regs_Set_38.f 1000 r.1 r.2.1 r.2.2.1 r.2.2.2.1 r.2.2.2.2.1 r.2.2.2.2.2.1 r.2.2.2.2.2.2.1 r.2.2.2.2.2.2.2.1 r.2.2.2.2.2.2.2.2.1 r.2.2.2.2.2.2.2.2.2.1 r.2.2.2.2.2.2.2.2.2.2.1 r.2.2.2.2.2.2.2.2.2.2.2.1 r.2.2.2.2.2.2.2.2.2.2.2.2.1 r.2.2.2.2.2.2.2.2.2.2.2.2.2.1 r.2.2.2.2.2.2.2.2.2.2.2.2.2.2.1 r.2.2.2.2.2.2.2.2.2.2.2.2.2.2.2.1 r.2.2.2.2.2.2.2.2.2.2.2.2.2.2.2.2.1 r.2.2.2.2.2.2.2.2.2.2.2.2.2.2.2.2.2.1 r.2.2.2.2.2.2.2.2.2.2.2.2.2.2.2.2.2.2.1 r.2.2.2.2.2.2.2.2.2.2.2.2.2.2.2.2.2.2.2 p k b
def SetQ (r : R20) (p k b : Int) : Option R20 := charabancref11_Set_39.f 1000 r.1 r.2.1 r.2.2.1 r.2.2.2.1 r.2.2.2.2.1 r.2.2.2.2.2.1 r.2.2.2.2.2.2.1 r.2.2.2.2.2.2.2.1 r.2.2.2.2.2.2.2.2.1 r.2.2.2.2.2.2.2.2.2.1 r.2.2.2.2.2.2.2.2.2.2.1 r.2.2.2.2.2.2.2.2.2.2.2.1 r.2.2.2.2.2.2.2.2.2.2.2.2.1 r.2.2.2.2.2.2.2.2.2.2.2.2.2.1 r.2.2.2.2.2.2.2.2.2.2.2.2.2.2.1 r.2.2.2.2.2.2.2.2.2.2.2.2.2.2.2.1 r.2.2.2.2.2.2.2.2.2.2.2.2.2.2.2.2.1 r.2.2.2.2.2.2.2.2.2.2.2.2.2.2.2.2.2.1 r.2.2.2.2.2.2.2.2.2.2.2.2.2.2.2.2.2.2.1 r.2.2.2.2.2.2.2.2.2.2.2.2.2.2.2.2.2.2.2 p k b
def SetPairR (r : R20) (p k b : Int) : Option R20 := regs_SetPair_40.f 1000 r.1 r.2.1 r.2.2.1 r.2.2.2.1 r.2.2.2.2.1 r.2.2.2.2.2.1 r.2.2.2.2.2.2.1 r.2.2.2.2.2.2.2.1 r.2.2.2.2.2.2.2.2.1 r.2.2.2.2.2.2.2.2.2.1 r.2.2.2.2.2.2.2.2.2.2.1 r.2.2.2.2.2.2.2.2.2.2.2.1 r.2.2.2.2.2.2.2.2.2.2.2.2.1 r.2.2.2.2.2.2.2.2.2.2.2.2.2.1 r.2.2.2.2.2.2.2.2.2.2.2.2.2.2.1 r.2.2.2.2.2.2.2.2.2.2.2.2.2.2.2.1 r.2.2.2.2.2.2.2.2.2.2.2.2.2.2.2.2.1 r.2.2.2.2.2.2.2.2.2.2.2.2.2.2.2.2.2.1 r.2.2.2.2.2.2.2.2.2.2.2.2.2.2.2.2.2.2.1 r.2.2.2.2.2.2.2.2.2.2.2.2.2.2.2.2.2.2.2 p k b
def SetPairQ (r : R20) (p k b : Int) : Option R20 := charabancref11_SetPair_41.f 1000 r.1 r.2.1 r.2.2.1 r.2.2.2.1 r.2.2.2.2.1 r.2.2.2.2.2.1 r.2.2.2.2.2.2.1 r.2.2.2.2.2.2.2.1 r.2.2.2.2.2.2.2.2.1 r.2.2.2.2.2.2.2.2.2.1 r.2.2.2.2.2.2.2.2.2.2.1 r.2.2.2.2.2.2.2.2.2.2.2.1 r.2.2.2.2.2.2.2.2.2.2.2.2.1 r.2.2.2.2.2.2.2.2.2.2.2.2.2.1 r.2.2.2.2.2.2.2.2.2.2.2.2.2.2.1 r.2.2.2.2.2.2.2.2.2.2.2.2.2.2.2.1 r.2.2.2.2.2.2.2.2.2.2.2.2.2.2.2.2.1 r.2.2.2.2.2.2.2.2.2.2.2.2.2.2.2.2.2.1 r.2.2.2.2.2.2.2.2.2.2.2.2.2.2.2.2.2.2.1 r.2.2.2.2.2.2.2.2.2.2.2.2.2.2.2.2.2.2.2 p k b
theorem hi_at {w : Int} (h : u16 w) : bits_Hi_45.f 1000 w = some (w / 256) ∧ charabancref01_Hi_47.f 1000 w = some (w / 256) := by
  obtain ⟨h0, h1⟩ := h
  unfold bits_Hi_45.f charabancref01_Hi_47.f
  have e1 : Int.fdiv w (2 ^ 8) = w / 256 := by rw [Int.fdiv_eq_ediv_of_nonneg _ (by decide)]; rfl
  have e2 : Int.tdiv (IntKind.wrap .i64 w) 256 = w / 256 := by rw [wrap_i64 (by omega) (by omega), Int.tdiv_eq_ediv_of_nonneg h0]
  rw [e1, e2, wrap_i64 (by omega) (by omega), IntKind.wrap_u8]
  constructor <;> congr 1 <;> omega
theorem lo_at {w : Int} (h : u16 w) : bits_Lo_46.f 1000 w = some (w % 256) ∧ charabancref01_Lo_48.f 1000 w = some (w % 256) := by
  obtain ⟨h0, h1⟩ := h
  unfold bits_Lo_46.f charabancref01_Lo_48.f
  have e2 : Int.tmod (IntKind.wrap .i64 w) 256 = w % 256 := by rw [wrap_i64 (by omega) (by omega), Int.tmod_eq_emod_of_nonneg h0]
  rw [e2, IntKind.wrap_u8, IntKind.wrap_u8]
  constructor <;> congr 1 <;> omega
theorem word_at {h l : Int} (hh : u8 h) (hl : u8 l) : bits_Word_56.f 1000 h l = some (256 * h + l) ∧ charabancref01_Word_57.f 1000 h l = some (256 * h + l) := by
  obtain ⟨h0, h1⟩ := hh
  obtain ⟨h2, h3⟩ := hl
  unfold bits_Word_56.f charabancref01_Word_57.f
  constructor
  · obtain ⟨a, rfl⟩ : ∃ a : Nat, h = a := ⟨h.toNat, by omega⟩
    obtain ⟨b, rfl⟩ : ∃ b : Nat, l = b := ⟨l.toNat, by omega⟩
    have e1 : IntKind.wrap .u16 ((IntKind.wrap .u16 (a : Int)) * 2 ^ 8) = ((2 ^ 8 * a : Nat) : Int) := by rw [IntKind.wrap_u16, IntKind.wrap_u16]; omega
    have e2 : IntKind.wrap .u16 (b : Int) = ((b : Nat) : Int) := by rw [IntKind.wrap_u16]; omega
    rw [e1, e2]
    have e3 : (BitVec.ofInt 16 ((2 ^ 8 * a : Nat) : Int) ||| BitVec.ofInt 16 ((b : Nat) : Int)).toNat = 2 ^ 8 * a + b := by
      rw [BitVec.toNat_or, BitVec.ofInt_natCast, BitVec.ofInt_natCast, BitVec.toNat_ofNat, BitVec.toNat_ofNat, Nat.mod_eq_of_lt (by omega), Nat.mod_eq_of_lt (by omega), Nat.two_pow_add_eq_or_of_lt (by omega)]
    have e4 : bor .u16 ((2 ^ 8 * a : Nat) : Int) ((b : Nat) : Int) = IntKind.wrap .u16 ((BitVec.ofInt 16 ((2 ^ 8 * a : Nat) : Int) ||| BitVec.ofInt 16 ((b : Nat) : Int)).toNat : Int) := rfl
    rw [e4, e3, IntKind.wrap_u16]
    congr 1
    omega
  · rw [wrap_i64 (x := h) (by omega) (by omega), wrap_i64 (x := l) (by omega) (by omega), wrap_i64 (x := 256 * h) (by omega) (by omega), wrap_i64 (x := 256 * h + l) (by omega) (by omega), IntKind.wrap_u16]
    congr 1
    omega
theorem pairR_at (r : R20) (p k : Int) : PairR r p k = some (prV r p k) := by
  obtain ⟨x0, x1, x2, x3, x4, x5, x6, x7, x8, x9, x10, x11, x12, x13, x14, x15, x16, x17, x18, x19⟩ := r
  unfold PairR prV
  by_cases h0 : k = 0
  · subst h0; rfl
  by_cases h1 : k = 1
  · subst h1; rfl
  by_cases h2 : k = 2
  · subst h2
    by_cases p3 : p = 3
    · subst p3; rfl
    by_cases p4 : p = 4
    · subst p4; rfl
    have e3 : (p == 3) = false := by simpa using p3
    have e4 : (p == 4) = false := by simpa using p4
    unfold regs_Pair_26.f
    rw [if_neg (by omega), if_neg (by omega), if_pos rfl, if_neg p3, if_neg p4]
    simp only [Let, e3, e4]
    rfl
  by_cases h3 : k = 3
  · subst h3; rfl
  have e0 : (k == 0) = false := by simpa using h0
  have e1 : (k == 1) = false := by simpa using h1
  have e2 : (k == 2) = false := by simpa using h2
  have e3 : (k == 3) = false := by simpa using h3
  unfold regs_Pair_26.f
  rw [if_neg h0, if_neg h1, if_neg h2, if_neg h3]
  simp only [Let, e0, e1, e2, e3]
  rfl
theorem pairQ_at (r : R20) (p k : Int) : PairQ r p k = some (prV r p k) := by
  obtain ⟨x0, x1, x2, x3, x4, x5, x6, x7, x8, x9, x10, x11, x12, x13, x14, x15, x16, x17, x18, x19⟩ := r
  unfold PairQ prV
  by_cases h0 : k = 0
  · subst h0; rfl
  by_cases h1 : k = 1
  · subst h1; rfl
  by_cases h2 : k = 2
  · subst h2
    by_cases p3 : p = 3
    · subst p3; rfl
    by_cases p4 : p = 4
    · subst p4; rfl
    have e3 : (p == 3) = false := by simpa using p3
    have e4 : (p == 4) = false := by simpa using p4
    unfold charabancref11_Pair_27.f
    rw [if_neg (by omega), if_neg (by omega), if_pos rfl, if_neg p3, if_neg p4]
    simp only [Let, e3, e4]
    rfl
  by_cases h3 : k = 3
  · subst h3; rfl
  have e0 : (k == 0) = false := by simpa using h0
  have e1 : (k == 1) = false := by simpa using h1
  have e2 : (k == 2) = false := by simpa using h2
  have e3 : (k == 3) = false := by simpa using h3
  unfold charabancref11_Pair_27.f
  rw [if_neg h0, if_neg h1, if_neg h2, if_neg h3]
  simp only [Let, e0, e1, e2, e3]
  rfl
theorem setPairR_at (r : R20) (p k w : Int) : SetPairR r p k w = some (putV r p k w) := by
  obtain ⟨x0, x1, x2, x3, x4, x5, x6, x7, x8, x9, x10, x11, x12, x13, x14, x15, x16, x17, x18, x19⟩ := r
  unfold SetPairR putV
  by_cases h0 : k = 0
  · subst h0; rfl
  by_cases h1 : k = 1
  · subst h1; rfl
  by_cases h2 : k = 2
  · subst h2
    by_cases p3 : p = 3
    · subst p3; rfl
    by_cases p4 : p = 4
    · subst p4; rfl
    have e3 : (p == 3) = false := by simpa using p3
    have e4 : (p == 4) = false := by simpa using p4
    unfold regs_SetPair_40.f
    rw [if_neg (by omega), if_neg (by omega), if_pos rfl, if_neg p3, if_neg p4]
    simp only [Let, e3, e4]
    rfl
  by_cases h3 : k = 3
  · subst h3; rfl
  have e0 : (k == 0) = false := by simpa using h0
  have e1 : (k == 1) = false := by simpa using h1
  have e2 : (k == 2) = false := by simpa using h2
  have e3 : (k == 3) = false := by simpa using h3
  unfold regs_SetPair_40.f
  rw [if_neg h0, if_neg h1, if_neg h2, if_neg h3]
  simp only [Let, e0, e1, e2, e3]
  rfl
theorem setPairQ_at (r : R20) (p k w : Int) : SetPairQ r p k w = some (putV r p k w) := by
  obtain ⟨x0, x1, x2, x3, x4, x5, x6, x7, x8, x9, x10, x11, x12, x13, x14, x15, x16, x17, x18, x19⟩ := r
  unfold SetPairQ putV
  by_cases h0 : k = 0
  · subst h0; rfl
  by_cases h1 : k = 1
  · subst h1; rfl
  by_cases h2 : k = 2
  · subst h2
    by_cases p3 : p = 3
    · subst p3; rfl
    by_cases p4 : p = 4
    · subst p4; rfl
    have e3 : (p == 3) = false := by simpa using p3
    have e4 : (p == 4) = false := by simpa using p4
    unfold charabancref11_SetPair_41.f
    rw [if_neg (by omega), if_neg (by omega), if_pos rfl, if_neg p3, if_neg p4]
    simp only [Let, e3, e4]
    rfl
  by_cases h3 : k = 3
  · subst h3; rfl
  have e0 : (k == 0) = false := by simpa using h0
  have e1 : (k == 1) = false := by simpa using h1
  have e2 : (k == 2) = false := by simpa using h2
  have e3 : (k == 3) = false := by simpa using h3
  unfold charabancref11_SetPair_41.f
  rw [if_neg h0, if_neg h1, if_neg h2, if_neg h3]
  simp only [Let, e0, e1, e2, e3]
  rfl
theorem prV_in {r : R20} (hr : okR r) (p k : Int) : u16 (prV r p k) := by
  obtain ⟨h0, h1, h2, h3, h8, h9, h10⟩ := hr
  unfold prV
  split; · exact h1
  split; · exact h2
  split
  · split; · exact h8
    split; · exact h9
    exact h3
  split; · exact h10
  exact ⟨by omega, by omega⟩
theorem okR_af {r : R20} (hr : okR r) {w : Int} (hw : u16 w) : okR (afV r w) := by
  obtain ⟨h0, h1, h2, h3, h8, h9, h10⟩ := hr
  exact ⟨hw, h1, h2, h3, h8, h9, h10⟩
theorem okR_put {r : R20} (hr : okR r) (p k : Int) {w : Int} (hw : u16 w) : okR (putV r p k w) := by
  obtain ⟨h0, h1, h2, h3, h8, h9, h10⟩ := hr
  unfold putV
  split; · exact ⟨h0, hw, h2, h3, h8, h9, h10⟩
  split; · exact ⟨h0, h1, hw, h3, h8, h9, h10⟩
  split
  · split; · exact ⟨h0, h1, h2, h3, hw, h9, h10⟩
    split; · exact ⟨h0, h1, h2, h3, h8, hw, h10⟩
    exact ⟨h0, h1, h2, hw, h8, h9, h10⟩
  split; · exact ⟨h0, h1, h2, h3, h8, h9, hw⟩
  exact ⟨h0, h1, h2, h3, h8, h9, h10⟩
theorem getR_at {r : R20} (hr : okR r) (p k : Int) : GetR r p k = some (getV r p k) := by
  have hq := prV_in hr p
  by_cases h7 : k = 7
  · subst h7
    show ((bits_Hi_45.f 1000 r.1).bind fun t => some t) = some _
    rw [(hi_at hr.1).1]
    rfl
  have e7 : (k == 7) = false := by simpa using h7
  by_cases ho : k < 0 ∨ k > 5
  · unfold GetR regs_Get_24.f getV
    rw [if_neg h7, if_pos ho]
    simp only [Let, e7]
    by_cases hn : k < 0
    · rw [decide_eq_true hn]; rfl
    · rw [decide_eq_false hn, decide_eq_true (show k > 5 by omega)]; rfl
  have hk : k = 0 ∨ k = 1 ∨ k = 2 ∨ k = 3 ∨ k = 4 ∨ k = 5 := by omega
  rcases hk with rfl | rfl | rfl | rfl | rfl | rfl
  · have e := (hi_at (hq 0)).1
    show ((bits_Hi_45.f 1000 r.2.1).bind fun t => some t) = some _
    rw [show r.2.1 = prV r p 0 from rfl, e]
    rfl
  · have e := (lo_at (hq 0)).1
    show ((bits_Lo_46.f 1000 r.2.1).bind fun t => some t) = some _
    rw [show r.2.1 = prV r p 0 from rfl, e]
    rfl
  · have e := (hi_at (hq 1)).1
    show ((bits_Hi_45.f 1000 r.2.2.1).bind fun t => some t) = some _
    rw [show r.2.2.1 = prV r p 1 from rfl, e]
    rfl
  · have e := (lo_at (hq 1)).1
    show ((bits_Lo_46.f 1000 r.2.2.1).bind fun t => some t) = some _
    rw [show r.2.2.1 = prV r p 1 from rfl, e]
    rfl
  · have e := (hi_at (hq 2)).1
    by_cases p3 : p = 3
    · subst p3
      show ((bits_Hi_45.f 1000 r.2.2.2.2.2.2.2.2.1).bind fun t => some t) = some _
      rw [show r.2.2.2.2.2.2.2.2.1 = prV r 3 2 from rfl, e]
      rfl
    by_cases p4 : p = 4
    · subst p4
      show ((bits_Hi_45.f 1000 r.2.2.2.2.2.2.2.2.2.1).bind fun t => some t) = some _
      rw [show r.2.2.2.2.2.2.2.2.2.1 = prV r 4 2 from rfl, e]
      rfl
    have e3 : (p == 3) = false := by simpa using p3
    have e4 : (p == 4) = false := by simpa using p4
    have hv : prV r p 2 = r.2.2.2.1 := by unfold prV; rw [if_neg (by decide), if_neg (by decide), if_pos rfl, if_neg p3, if_neg p4]
    rw [hv] at e
    unfold GetR regs_Get_24.f getV
    rw [if_neg h7, if_neg ho]
    simp only [Let, e3, e4]
    show ((bits_Hi_45.f 1000 r.2.2.2.1).bind fun t => some t) = some (prV r p 2 / 256)
    rw [e, hv]
    rfl
  · have e := (lo_at (hq 2)).1
    by_cases p3 : p = 3
    · subst p3
      show ((bits_Lo_46.f 1000 r.2.2.2.2.2.2.2.2.1).bind fun t => some t) = some _
      rw [show r.2.2.2.2.2.2.2.2.1 = prV r 3 2 from rfl, e]
      rfl
    by_cases p4 : p = 4
    · subst p4
      show ((bits_Lo_46.f 1000 r.2.2.2.2.2.2.2.2.2.1).bind fun t => some t) = some _
      rw [show r.2.2.2.2.2.2.2.2.2.1 = prV r 4 2 from rfl, e]
      rfl
    have e3 : (p == 3) = false := by simpa using p3
    have e4 : (p == 4) = false := by simpa using p4
    have hv : prV r p 2 = r.2.2.2.1 := by unfold prV; rw [if_neg (by decide), if_neg (by decide), if_pos rfl, if_neg p3, if_neg p4]
    rw [hv] at e
    unfold GetR regs_Get_24.f getV
    rw [if_neg h7, if_neg ho]
    simp only [Let, e3, e4]
    show ((bits_Lo_46.f 1000 r.2.2.2.1).bind fun t => some t) = some (prV r p 2 % 256)
    rw [e, hv]
    rfl
theorem getQ_at {r : R20} (hr : okR r) (p k : Int) : GetQ r p k = some (getV r p k) := by
  have hq := prV_in hr p
  by_cases h7 : k = 7
  · subst h7
    show ((charabancref01_Hi_47.f 1000 r.1).bind fun t => some t) = some _
    rw [(hi_at hr.1).2]
    rfl
  have e7 : (k == 7) = false := by simpa using h7
  by_cases ho : k < 0 ∨ k > 5
  · unfold GetQ charabancref11_Get_25.f getV
    rw [if_neg h7, if_pos ho]
    simp only [Let, e7]
    by_cases hn : k < 0
    · rw [decide_eq_true hn]; rfl
    · rw [decide_eq_false hn, decide_eq_true (show k > 5 by omega)]; rfl
  have hk : k = 0 ∨ k = 1 ∨ k = 2 ∨ k = 3 ∨ k = 4 ∨ k = 5 := by omega
  rcases hk with rfl | rfl | rfl | rfl | rfl | rfl
  · have e := pairQ_at r p 0
    unfold PairQ at e
    show ((charabancref11_Pair_27.f 1000 r.1 r.2.1 r.2.2.1 r.2.2.2.1 r.2.2.2.2.1 r.2.2.2.2.2.1 r.2.2.2.2.2.2.1 r.2.2.2.2.2.2.2.1 r.2.2.2.2.2.2.2.2.1 r.2.2.2.2.2.2.2.2.2.1 r.2.2.2.2.2.2.2.2.2.2.1 r.2.2.2.2.2.2.2.2.2.2.2.1 r.2.2.2.2.2.2.2.2.2.2.2.2.1 r.2.2.2.2.2.2.2.2.2.2.2.2.2.1 r.2.2.2.2.2.2.2.2.2.2.2.2.2.2.1 r.2.2.2.2.2.2.2.2.2.2.2.2.2.2.2.1 r.2.2.2.2.2.2.2.2.2.2.2.2.2.2.2.2.1 r.2.2.2.2.2.2.2.2.2.2.2.2.2.2.2.2.2.1 r.2.2.2.2.2.2.2.2.2.2.2.2.2.2.2.2.2.2.1 r.2.2.2.2.2.2.2.2.2.2.2.2.2.2.2.2.2.2.2 p 0).bind fun t24 => (charabancref01_Hi_47.f 1000 t24).bind fun t => some t) = some _
    rw [e, Option.bind_some, (hi_at (hq 0)).2]
    rfl
  · have e := pairQ_at r p 0
    unfold PairQ at e
    show ((charabancref11_Pair_27.f 1000 r.1 r.2.1 r.2.2.1 r.2.2.2.1 r.2.2.2.2.1 r.2.2.2.2.2.1 r.2.2.2.2.2.2.1 r.2.2.2.2.2.2.2.1 r.2.2.2.2.2.2.2.2.1 r.2.2.2.2.2.2.2.2.2.1 r.2.2.2.2.2.2.2.2.2.2.1 r.2.2.2.2.2.2.2.2.2.2.2.1 r.2.2.2.2.2.2.2.2.2.2.2.2.1 r.2.2.2.2.2.2.2.2.2.2.2.2.2.1 r.2.2.2.2.2.2.2.2.2.2.2.2.2.2.1 r.2.2.2.2.2.2.2.2.2.2.2.2.2.2.2.1 r.2.2.2.2.2.2.2.2.2.2.2.2.2.2.2.2.1 r.2.2.2.2.2.2.2.2.2.2.2.2.2.2.2.2.2.1 r.2.2.2.2.2.2.2.2.2.2.2.2.2.2.2.2.2.2.1 r.2.2.2.2.2.2.2.2.2.2.2.2.2.2.2.2.2.2.2 p 0).bind fun t24 => (charabancref01_Lo_48.f 1000 t24).bind fun t => some t) = some _
    rw [e, Option.bind_some, (lo_at (hq 0)).2]
    rfl
  · have e := pairQ_at r p 1
    unfold PairQ at e
    show ((charabancref11_Pair_27.f 1000 r.1 r.2.1 r.2.2.1 r.2.2.2.1 r.2.2.2.2.1 r.2.2.2.2.2.1 r.2.2.2.2.2.2.1 r.2.2.2.2.2.2.2.1 r.2.2.2.2.2.2.2.2.1 r.2.2.2.2.2.2.2.2.2.1 r.2.2.2.2.2.2.2.2.2.2.1 r.2.2.2.2.2.2.2.2.2.2.2.1 r.2.2.2.2.2.2.2.2.2.2.2.2.1 r.2.2.2.2.2.2.2.2.2.2.2.2.2.1 r.2.2.2.2.2.2.2.2.2.2.2.2.2.2.1 r.2.2.2.2.2.2.2.2.2.2.2.2.2.2.2.1 r.2.2.2.2.2.2.2.2.2.2.2.2.2.2.2.2.1 r.2.2.2.2.2.2.2.2.2.2.2.2.2.2.2.2.2.1 r.2.2.2.2.2.2.2.2.2.2.2.2.2.2.2.2.2.2.1 r.2.2.2.2.2.2.2.2.2.2.2.2.2.2.2.2.2.2.2 p 1).bind fun t24 => (charabancref01_Hi_47.f 1000 t24).bind fun t => some t) = some _
    rw [e, Option.bind_some, (hi_at (hq 1)).2]
    rfl
  · have e := pairQ_at r p 1
    unfold PairQ at e
    show ((charabancref11_Pair_27.f 1000 r.1 r.2.1 r.2.2.1 r.2.2.2.1 r.2.2.2.2.1 r.2.2.2.2.2.1 r.2.2.2.2.2.2.1 r.2.2.2.2.2.2.2.1 r.2.2.2.2.2.2.2.2.1 r.2.2.2.2.2.2.2.2.2.1 r.2.2.2.2.2.2.2.2.2.2.1 r.2.2.2.2.2.2.2.2.2.2.2.1 r.2.2.2.2.2.2.2.2.2.2.2.2.1 r.2.2.2.2.2.2.2.2.2.2.2.2.2.1 r.2.2.2.2.2.2.2.2.2.2.2.2.2.2.1 r.2.2.2.2.2.2.2.2.2.2.2.2.2.2.2.1 r.2.2.2.2.2.2.2.2.2.2.2.2.2.2.2.2.1 r.2.2.2.2.2.2.2.2.2.2.2.2.2.2.2.2.2.1 r.2.2.2.2.2.2.2.2.2.2.2.2.2.2.2.2.2.2.1 r.2.2.2.2.2.2.2.2.2.2.2.2.2.2.2.2.2.2.2 p 1).bind fun t24 => (charabancref01_Lo_48.f 1000 t24).bind fun t => some t) = some _
    rw [e, Option.bind_some, (lo_at (hq 1)).2]
    rfl
  · have e := pairQ_at r p 2
    unfold PairQ at e
    show ((charabancref11_Pair_27.f 1000 r.1 r.2.1 r.2.2.1 r.2.2.2.1 r.2.2.2.2.1 r.2.2.2.2.2.1 r.2.2.2.2.2.2.1 r.2.2.2.2.2.2.2.1 r.2.2.2.2.2.2.2.2.1 r.2.2.2.2.2.2.2.2.2.1 r.2.2.2.2.2.2.2.2.2.2.1 r.2.2.2.2.2.2.2.2.2.2.2.1 r.2.2.2.2.2.2.2.2.2.2.2.2.1 r.2.2.2.2.2.2.2.2.2.2.2.2.2.1 r.2.2.2.2.2.2.2.2.2.2.2.2.2.2.1 r.2.2.2.2.2.2.2.2.2.2.2.2.2.2.2.1 r.2.2.2.2.2.2.2.2.2.2.2.2.2.2.2.2.1 r.2.2.2.2.2.2.2.2.2.2.2.2.2.2.2.2.2.1 r.2.2.2.2.2.2.2.2.2.2.2.2.2.2.2.2.2.2.1 r.2.2.2.2.2.2.2.2.2.2.2.2.2.2.2.2.2.2.2 p 2).bind fun t24 => (charabancref01_Hi_47.f 1000 t24).bind fun t => some t) = some _
    rw [e, Option.bind_some, (hi_at (hq 2)).2]
    rfl
  · have e := pairQ_at r p 2
    unfold PairQ at e
    show ((charabancref11_Pair_27.f 1000 r.1 r.2.1 r.2.2.1 r.2.2.2.1 r.2.2.2.2.1 r.2.2.2.2.2.1 r.2.2.2.2.2.2.1 r.2.2.2.2.2.2.2.1 r.2.2.2.2.2.2.2.2.1 r.2.2.2.2.2.2.2.2.2.1 r.2.2.2.2.2.2.2.2.2.2.1 r.2.2.2.2.2.2.2.2.2.2.2.1 r.2.2.2.2.2.2.2.2.2.2.2.2.1 r.2.2.2.2.2.2.2.2.2.2.2.2.2.1 r.2.2.2.2.2.2.2.2.2.2.2.2.2.2.1 r.2.2.2.2.2.2.2.2.2.2.2.2.2.2.2.1 r.2.2.2.2.2.2.2.2.2.2.2.2.2.2.2.2.1 r.2.2.2.2.2.2.2.2.2.2.2.2.2.2.2.2.2.1 r.2.2.2.2.2.2.2.2.2.2.2.2.2.2.2.2.2.2.1 r.2.2.2.2.2.2.2.2.2.2.2.2.2.2.2.2.2.2.2 p 2).bind fun t24 => (charabancref01_Lo_48.f 1000 t24).bind fun t => some t) = some _
    rw [e, Option.bind_some, (lo_at (hq 2)).2]
    rfl
theorem setR_at {r : R20} (hr : okR r) (p k : Int) {b : Int} (hb : u8 b) : SetR r p k b = some (setV r p k b) := by
  have hq := prV_in hr p
  have hm : ∀ x : Int, u8 (x % 256) := fun x => ⟨by omega, by omega⟩
  have hd : ∀ {x : Int}, u16 x → u8 (x / 256) := fun ⟨h1, h2⟩ => ⟨by omega, by omega⟩
  by_cases h7 : k = 7
  · subst h7
    show ((bits_Lo_46.f 1000 r.1).bind fun t => (bits_Word_56.f 1000 b t).bind fun t2 => some ((t2, r.2.1, r.2.2.1, r.2.2.2.1, r.2.2.2.2.1, r.2.2.2.2.2.1, r.2.2.2.2.2.2.1, r.2.2.2.2.2.2.2.1, r.2.2.2.2.2.2.2.2.1, r.2.2.2.2.2.2.2.2.2.1, r.2.2.2.2.2.2.2.2.2.2.1, r.2.2.2.2.2.2.2.2.2.2.2.1, r.2.2.2.2.2.2.2.2.2.2.2.2.1, r.2.2.2.2.2.2.2.2.2.2.2.2.2.1, r.2.2.2.2.2.2.2.2.2.2.2.2.2.2.1, r.2.2.2.2.2.2.2.2.2.2.2.2.2.2.2.1, r.2.2.2.2.2.2.2.2.2.2.2.2.2.2.2.2.1, r.2.2.2.2.2.2.2.2.2.2.2.2.2.2.2.2.2.1, r.2.2.2.2.2.2.2.2.2.2.2.2.2.2.2.2.2.2.1, r.2.2.2.2.2.2.2.2.2.2.2.2.2.2.2.2.2.2.2) : R20)) = some _
    rw [(lo_at hr.1).1, Option.bind_some, (word_at hb (hm _)).1]
    rfl
  have e7 : (k == 7) = false := by simpa using h7
  by_cases ho : k < 0 ∨ k > 5
  · unfold SetR regs_Set_38.f setV
    rw [if_neg h7, if_pos ho]
    simp only [Let, e7]
    by_cases hn : k < 0
    · rw [decide_eq_true hn]; rfl
    · rw [decide_eq_false hn, decide_eq_true (show k > 5 by omega)]; rfl
  have hk : k = 0 ∨ k = 1 ∨ k = 2 ∨ k = 3 ∨ k = 4 ∨ k = 5 := by omega
  rcases hk with rfl | rfl | rfl | rfl | rfl | rfl
  · show ((bits_Lo_46.f 1000 r.2.1).bind fun t => (bits_Word_56.f 1000 b t).bind fun t2 => some ((r.1, t2, r.2.2.1, r.2.2.2.1, r.2.2.2.2.1, r.2.2.2.2.2.1, r.2.2.2.2.2.2.1, r.2.2.2.2.2.2.2.1, r.2.2.2.2.2.2.2.2.1, r.2.2.2.2.2.2.2.2.2.1, r.2.2.2.2.2.2.2.2.2.2.1, r.2.2.2.2.2.2.2.2.2.2.2.1, r.2.2.2.2.2.2.2.2.2.2.2.2.1, r.2.2.2.2.2.2.2.2.2.2.2.2.2.1, r.2.2.2.2.2.2.2.2.2.2.2.2.2.2.1, r.2.2.2.2.2.2.2.2.2.2.2.2.2.2.2.1, r.2.2.2.2.2.2.2.2.2.2.2.2.2.2.2.2.1, r.2.2.2.2.2.2.2.2.2.2.2.2.2.2.2.2.2.1, r.2.2.2.2.2.2.2.2.2.2.2.2.2.2.2.2.2.2.1, r.2.2.2.2.2.2.2.2.2.2.2.2.2.2.2.2.2.2.2) : R20)) = some _
    rw [show bits_Lo_46.f 1000 r.2.1 = bits_Lo_46.f 1000 (prV r p 0) from rfl, (lo_at (hq 0)).1, Option.bind_some, (word_at hb (hm _)).1]
    rfl
  · show ((bits_Hi_45.f 1000 r.2.1).bind fun t => (bits_Word_56.f 1000 t b).bind fun t2 => some ((r.1, t2, r.2.2.1, r.2.2.2.1, r.2.2.2.2.1, r.2.2.2.2.2.1, r.2.2.2.2.2.2.1, r.2.2.2.2.2.2.2.1, r.2.2.2.2.2.2.2.2.1, r.2.2.2.2.2.2.2.2.2.1, r.2.2.2.2.2.2.2.2.2.2.1, r.2.2.2.2.2.2.2.2.2.2.2.1, r.2.2.2.2.2.2.2.2.2.2.2.2.1, r.2.2.2.2.2.2.2.2.2.2.2.2.2.1, r.2.2.2.2.2.2.2.2.2.2.2.2.2.2.1, r.2.2.2.2.2.2.2.2.2.2.2.2.2.2.2.1, r.2.2.2.2.2.2.2.2.2.2.2.2.2.2.2.2.1, r.2.2.2.2.2.2.2.2.2.2.2.2.2.2.2.2.2.1, r.2.2.2.2.2.2.2.2.2.2.2.2.2.2.2.2.2.2.1, r.2.2.2.2.2.2.2.2.2.2.2.2.2.2.2.2.2.2.2) : R20)) = some _
    rw [show bits_Hi_45.f 1000 r.2.1 = bits_Hi_45.f 1000 (prV r p 0) from rfl, (hi_at (hq 0)).1, Option.bind_some, (word_at (hd (hq 0)) hb).1]
    show some (putV r p 0 (256 * (prV r p 0 / 256) + b)) = some (putV r p 0 (prV r p 0 / 256 * 256 + b))
    rw [Int.mul_comm]
  · show ((bits_Lo_46.f 1000 r.2.2.1).bind fun t => (bits_Word_56.f 1000 b t).bind fun t2 => some ((r.1, r.2.1, t2, r.2.2.2.1, r.2.2.2.2.1, r.2.2.2.2.2.1, r.2.2.2.2.2.2.1, r.2.2.2.2.2.2.2.1, r.2.2.2.2.2.2.2.2.1, r.2.2.2.2.2.2.2.2.2.1, r.2.2.2.2.2.2.2.2.2.2.1, r.2.2.2.2.2.2.2.2.2.2.2.1, r.2.2.2.2.2.2.2.2.2.2.2.2.1, r.2.2.2.2.2.2.2.2.2.2.2.2.2.1, r.2.2.2.2.2.2.2.2.2.2.2.2.2.2.1, r.2.2.2.2.2.2.2.2.2.2.2.2.2.2.2.1, r.2.2.2.2.2.2.2.2.2.2.2.2.2.2.2.2.1, r.2.2.2.2.2.2.2.2.2.2.2.2.2.2.2.2.2.1, r.2.2.2.2.2.2.2.2.2.2.2.2.2.2.2.2.2.2.1, r.2.2.2.2.2.2.2.2.2.2.2.2.2.2.2.2.2.2.2) : R20)) = some _
    rw [show bits_Lo_46.f 1000 r.2.2.1 = bits_Lo_46.f 1000 (prV r p 1) from rfl, (lo_at (hq 1)).1, Option.bind_some, (word_at hb (hm _)).1]
    rfl
  · show ((bits_Hi_45.f 1000 r.2.2.1).bind fun t => (bits_Word_56.f 1000 t b).bind fun t2 => some ((r.1, r.2.1, t2, r.2.2.2.1, r.2.2.2.2.1, r.2.2.2.2.2.1, r.2.2.2.2.2.2.1, r.2.2.2.2.2.2.2.1, r.2.2.2.2.2.2.2.2.1, r.2.2.2.2.2.2.2.2.2.1, r.2.2.2.2.2.2.2.2.2.2.1, r.2.2.2.2.2.2.2.2.2.2.2.1, r.2.2.2.2.2.2.2.2.2.2.2.2.1, r.2.2.2.2.2.2.2.2.2.2.2.2.2.1, r.2.2.2.2.2.2.2.2.2.2.2.2.2.2.1, r.2.2.2.2.2.2.2.2.2.2.2.2.2.2.2.1, r.2.2.2.2.2.2.2.2.2.2.2.2.2.2.2.2.1, r.2.2.2.2.2.2.2.2.2.2.2.2.2.2.2.2.2.1, r.2.2.2.2.2.2.2.2.2.2.2.2.2.2.2.2.2.2.1, r.2.2.2.2.2.2.2.2.2.2.2.2.2.2.2.2.2.2.2) : R20)) = some _
    rw [show bits_Hi_45.f 1000 r.2.2.1 = bits_Hi_45.f 1000 (prV r p 1) from rfl, (hi_at (hq 1)).1, Option.bind_some, (word_at (hd (hq 1)) hb).1]
    show some (putV r p 1 (256 * (prV r p 1 / 256) + b)) = some (putV r p 1 (prV r p 1 / 256 * 256 + b))
    rw [Int.mul_comm]
  · by_cases p3 : p = 3
    · subst p3
      show ((bits_Lo_46.f 1000 r.2.2.2.2.2.2.2.2.1).bind fun t => (bits_Word_56.f 1000 b t).bind fun t2 => some ((r.1, r.2.1, r.2.2.1, r.2.2.2.1, r.2.2.2.2.1, r.2.2.2.2.2.1, r.2.2.2.2.2.2.1, r.2.2.2.2.2.2.2.1, t2, r.2.2.2.2.2.2.2.2.2.1, r.2.2.2.2.2.2.2.2.2.2.1, r.2.2.2.2.2.2.2.2.2.2.2.1, r.2.2.2.2.2.2.2.2.2.2.2.2.1, r.2.2.2.2.2.2.2.2.2.2.2.2.2.1, r.2.2.2.2.2.2.2.2.2.2.2.2.2.2.1, r.2.2.2.2.2.2.2.2.2.2.2.2.2.2.2.1, r.2.2.2.2.2.2.2.2.2.2.2.2.2.2.2.2.1, r.2.2.2.2.2.2.2.2.2.2.2.2.2.2.2.2.2.1, r.2.2.2.2.2.2.2.2.2.2.2.2.2.2.2.2.2.2.1, r.2.2.2.2.2.2.2.2.2.2.2.2.2.2.2.2.2.2.2) : R20)) = some _
      rw [show bits_Lo_46.f 1000 r.2.2.2.2.2.2.2.2.1 = bits_Lo_46.f 1000 (prV r 3 2) from rfl, (lo_at (hq 2)).1, Option.bind_some, (word_at hb (hm _)).1]
      rfl
    by_cases p4 : p = 4
    · subst p4
      show ((bits_Lo_46.f 1000 r.2.2.2.2.2.2.2.2.2.1).bind fun t => (bits_Word_56.f 1000 b t).bind fun t2 => some ((r.1, r.2.1, r.2.2.1, r.2.2.2.1, r.2.2.2.2.1, r.2.2.2.2.2.1, r.2.2.2.2.2.2.1, r.2.2.2.2.2.2.2.1, r.2.2.2.2.2.2.2.2.1, t2, r.2.2.2.2.2.2.2.2.2.2.1, r.2.2.2.2.2.2.2.2.2.2.2.1, r.2.2.2.2.2.2.2.2.2.2.2.2.1, r.2.2.2.2.2.2.2.2.2.2.2.2.2.1, r.2.2.2.2.2.2.2.2.2.2.2.2.2.2.1, r.2.2.2.2.2.2.2.2.2.2.2.2.2.2.2.1, r.2.2.2.2.2.2.2.2.2.2.2.2.2.2.2.2.1, r.2.2.2.2.2.2.2.2.2.2.2.2.2.2.2.2.2.1, r.2.2.2.2.2.2.2.2.2.2.2.2.2.2.2.2.2.2.1, r.2.2.2.2.2.2.2.2.2.2.2.2.2.2.2.2.2.2.2) : R20)) = some _
      rw [show bits_Lo_46.f 1000 r.2.2.2.2.2.2.2.2.2.1 = bits_Lo_46.f 1000 (prV r 4 2) from rfl, (lo_at (hq 2)).1, Option.bind_some, (word_at hb (hm _)).1]
      rfl
    have e3 : (p == 3) = false := by simpa using p3
    have e4 : (p == 4) = false := by simpa using p4
    have hv : prV r p 2 = r.2.2.2.1 := by unfold prV; rw [if_neg (by decide), if_neg (by decide), if_pos rfl, if_neg p3, if_neg p4]
    have hz : ∀ z, putV r p 2 z = (r.1, r.2.1, r.2.2.1, z, r.2.2.2.2.1, r.2.2.2.2.2.1, r.2.2.2.2.2.2.1, r.2.2.2.2.2.2.2.1, r.2.2.2.2.2.2.2.2.1, r.2.2.2.2.2.2.2.2.2.1, r.2.2.2.2.2.2.2.2.2.2.1, r.2.2.2.2.2.2.2.2.2.2.2.1, r.2.2.2.2.2.2.2.2.2.2.2.2.1, r.2.2.2.2.2.2.2.2.2.2.2.2.2.1, r.2.2.2.2.2.2.2.2.2.2.2.2.2.2.1, r.2.2.2.2.2.2.2.2.2.2.2.2.2.2.2.1, r.2.2.2.2.2.2.2.2.2.2.2.2.2.2.2.2.1, r.2.2.2.2.2.2.2.2.2.2.2.2.2.2.2.2.2.1, r.2.2.2.2.2.2.2.2.2.2.2.2.2.2.2.2.2.2.1, r.2.2.2.2.2.2.2.2.2.2.2.2.2.2.2.2.2.2.2) := fun z => by unfold putV; rw [if_neg (by decide), if_neg (by decide), if_pos rfl, if_neg p3, if_neg p4]
    unfold SetR regs_Set_38.f setV
    rw [if_neg h7, if_neg ho]
    simp only [Let, e3, e4]
    show ((bits_Lo_46.f 1000 r.2.2.2.1).bind fun t => (bits_Word_56.f 1000 b t).bind fun t2 => some ((r.1, r.2.1, r.2.2.1, t2, r.2.2.2.2.1, r.2.2.2.2.2.1, r.2.2.2.2.2.2.1, r.2.2.2.2.2.2.2.1, r.2.2.2.2.2.2.2.2.1, r.2.2.2.2.2.2.2.2.2.1, r.2.2.2.2.2.2.2.2.2.2.1, r.2.2.2.2.2.2.2.2.2.2.2.1, r.2.2.2.2.2.2.2.2.2.2.2.2.1, r.2.2.2.2.2.2.2.2.2.2.2.2.2.1, r.2.2.2.2.2.2.2.2.2.2.2.2.2.2.1, r.2.2.2.2.2.2.2.2.2.2.2.2.2.2.2.1, r.2.2.2.2.2.2.2.2.2.2.2.2.2.2.2.2.1, r.2.2.2.2.2.2.2.2.2.2.2.2.2.2.2.2.2.1, r.2.2.2.2.2.2.2.2.2.2.2.2.2.2.2.2.2.2.1, r.2.2.2.2.2.2.2.2.2.2.2.2.2.2.2.2.2.2.2) : R20)) = some (putV r p 2 (256 * b + prV r p 2 % 256))
    rw [← hv, (lo_at (hq 2)).1, Option.bind_some, (word_at hb (hm _)).1, hz]
    rfl
  · by_cases p3 : p = 3
    · subst p3
      show ((bits_Hi_45.f 1000 r.2.2.2.2.2.2.2.2.1).bind fun t => (bits_Word_56.f 1000 t b).bind fun t2 => some ((r.1, r.2.1, r.2.2.1, r.2.2.2.1, r.2.2.2.2.1, r.2.2.2.2.2.1, r.2.2.2.2.2.2.1, r.2.2.2.2.2.2.2.1, t2, r.2.2.2.2.2.2.2.2.2.1, r.2.2.2.2.2.2.2.2.2.2.1, r.2.2.2.2.2.2.2.2.2.2.2.1, r.2.2.2.2.2.2.2.2.2.2.2.2.1, r.2.2.2.2.2.2.2.2.2.2.2.2.2.1, r.2.2.2.2.2.2.2.2.2.2.2.2.2.2.1, r.2.2.2.2.2.2.2.2.2.2.2.2.2.2.2.1, r.2.2.2.2.2.2.2.2.2.2.2.2.2.2.2.2.1, r.2.2.2.2.2.2.2.2.2.2.2.2.2.2.2.2.2.1, r.2.2.2.2.2.2.2.2.2.2.2.2.2.2.2.2.2.2.1, r.2.2.2.2.2.2.2.2.2.2.2.2.2.2.2.2.2.2.2) : R20)) = some _
      rw [show bits_Hi_45.f 1000 r.2.2.2.2.2.2.2.2.1 = bits_Hi_45.f 1000 (prV r 3 2) from rfl, (hi_at (hq 2)).1, Option.bind_some, (word_at (hd (hq 2)) hb).1]
      show some (putV r 3 2 (256 * (prV r 3 2 / 256) + b)) = some (putV r 3 2 (prV r 3 2 / 256 * 256 + b))
      rw [Int.mul_comm]
    by_cases p4 : p = 4
    · subst p4
      show ((bits_Hi_45.f 1000 r.2.2.2.2.2.2.2.2.2.1).bind fun t => (bits_Word_56.f 1000 t b).bind fun t2 => some ((r.1, r.2.1, r.2.2.1, r.2.2.2.1, r.2.2.2.2.1, r.2.2.2.2.2.1, r.2.2.2.2.2.2.1, r.2.2.2.2.2.2.2.1, r.2.2.2.2.2.2.2.2.1, t2, r.2.2.2.2.2.2.2.2.2.2.1, r.2.2.2.2.2.2.2.2.2.2.2.1, r.2.2.2.2.2.2.2.2.2.2.2.2.1, r.2.2.2.2.2.2.2.2.2.2.2.2.2.1, r.2.2.2.2.2.2.2.2.2.2.2.2.2.2.1, r.2.2.2.2.2.2.2.2.2.2.2.2.2.2.2.1, r.2.2.2.2.2.2.2.2.2.2.2.2.2.2.2.2.1, r.2.2.2.2.2.2.2.2.2.2.2.2.2.2.2.2.2.1, r.2.2.2.2.2.2.2.2.2.2.2.2.2.2.2.2.2.2.1, r.2.2.2.2.2.2.2.2.2.2.2.2.2.2.2.2.2.2.2) : R20)) = some _
      rw [show bits_Hi_45.f 1000 r.2.2.2.2.2.2.2.2.2.1 = bits_Hi_45.f 1000 (prV r 4 2) from rfl, (hi_at (hq 2)).1, Option.bind_some, (word_at (hd (hq 2)) hb).1]
      show some (putV r 4 2 (256 * (prV r 4 2 / 256) + b)) = some (putV r 4 2 (prV r 4 2 / 256 * 256 + b))
      rw [Int.mul_comm]
    have e3 : (p == 3) = false := by simpa using p3
    have e4 : (p == 4) = false := by simpa using p4
    have hv : prV r p 2 = r.2.2.2.1 := by unfold prV; rw [if_neg (by decide), if_neg (by decide), if_pos rfl, if_neg p3, if_neg p4]
    have hz : ∀ z, putV r p 2 z = (r.1, r.2.1, r.2.2.1, z, r.2.2.2.2.1, r.2.2.2.2.2.1, r.2.2.2.2.2.2.1, r.2.2.2.2.2.2.2.1, r.2.2.2.2.2.2.2.2.1, r.2.2.2.2.2.2.2.2.2.1, r.2.2.2.2.2.2.2.2.2.2.1, r.2.2.2.2.2.2.2.2.2.2.2.1, r.2.2.2.2.2.2.2.2.2.2.2.2.1, r.2.2.2.2.2.2.2.2.2.2.2.2.2.1, r.2.2.2.2.2.2.2.2.2.2.2.2.2.2.1, r.2.2.2.2.2.2.2.2.2.2.2.2.2.2.2.1, r.2.2.2.2.2.2.2.2.2.2.2.2.2.2.2.2.1, r.2.2.2.2.2.2.2.2.2.2.2.2.2.2.2.2.2.1, r.2.2.2.2.2.2.2.2.2.2.2.2.2.2.2.2.2.2.1, r.2.2.2.2.2.2.2.2.2.2.2.2.2.2.2.2.2.2.2) := fun z => by unfold putV; rw [if_neg (by decide), if_neg (by decide), if_pos rfl, if_neg p3, if_neg p4]
    unfold SetR regs_Set_38.f setV
    rw [if_neg h7, if_neg ho]
    simp only [Let, e3, e4]
    show ((bits_Hi_45.f 1000 r.2.2.2.1).bind fun t => (bits_Word_56.f 1000 t b).bind fun t2 => some ((r.1, r.2.1, r.2.2.1, t2, r.2.2.2.2.1, r.2.2.2.2.2.1, r.2.2.2.2.2.2.1, r.2.2.2.2.2.2.2.1, r.2.2.2.2.2.2.2.2.1, r.2.2.2.2.2.2.2.2.2.1, r.2.2.2.2.2.2.2.2.2.2.1, r.2.2.2.2.2.2.2.2.2.2.2.1, r.2.2.2.2.2.2.2.2.2.2.2.2.1, r.2.2.2.2.2.2.2.2.2.2.2.2.2.1, r.2.2.2.2.2.2.2.2.2.2.2.2.2.2.1, r.2.2.2.2.2.2.2.2.2.2.2.2.2.2.2.1, r.2.2.2.2.2.2.2.2.2.2.2.2.2.2.2.2.1, r.2.2.2.2.2.2.2.2.2.2.2.2.2.2.2.2.2.1, r.2.2.2.2.2.2.2.2.2.2.2.2.2.2.2.2.2.2.1, r.2.2.2.2.2.2.2.2.2.2.2.2.2.2.2.2.2.2.2) : R20)) = some (putV r p 2 (prV r p 2 / 256 * 256 + b))
    rw [← hv, (hi_at (hq 2)).1, Option.bind_some, (word_at (hd (hq 2)) hb).1, hz]
    rw [Int.mul_comm]
    rfl
theorem setQ_at {r : R20} (hr : okR r) (p k : Int) {b : Int} (hb : u8 b) : SetQ r p k b = some (setV r p k b) := by
  have hq := prV_in hr p
  have hm : ∀ x : Int, u8 (x % 256) := fun x => ⟨by omega, by omega⟩
  have hd : ∀ {x : Int}, u16 x → u8 (x / 256) := fun ⟨h1, h2⟩ => ⟨by omega, by omega⟩
  by_cases h7 : k = 7
  · subst h7
    show ((charabancref01_Lo_48.f 1000 r.1).bind fun t => (charabancref01_Word_57.f 1000 b t).bind fun t2 => some ((t2, r.2.1, r.2.2.1, r.2.2.2.1, r.2.2.2.2.1, r.2.2.2.2.2.1, r.2.2.2.2.2.2.1, r.2.2.2.2.2.2.2.1, r.2.2.2.2.2.2.2.2.1, r.2.2.2.2.2.2.2.2.2.1, r.2.2.2.2.2.2.2.2.2.2.1, r.2.2.2.2.2.2.2.2.2.2.2.1, r.2.2.2.2.2.2.2.2.2.2.2.2.1, r.2.2.2.2.2.2.2.2.2.2.2.2.2.1, r.2.2.2.2.2.2.2.2.2.2.2.2.2.2.1, r.2.2.2.2.2.2.2.2.2.2.2.2.2.2.2.1, r.2.2.2.2.2.2.2.2.2.2.2.2.2.2.2.2.1, r.2.2.2.2.2.2.2.2.2.2.2.2.2.2.2.2.2.1, r.2.2.2.2.2.2.2.2.2.2.2.2.2.2.2.2.2.2.1, r.2.2.2.2.2.2.2.2.2.2.2.2.2.2.2.2.2.2.2) : R20)) = some _
    rw [(lo_at hr.1).2, Option.bind_some, (word_at hb (hm _)).2]
    rfl
  have e7 : (k == 7) = false := by simpa using h7
  by_cases ho : k < 0 ∨ k > 5
  · unfold SetQ charabancref11_Set_39.f setV
    rw [if_neg h7, if_pos ho]
    simp only [Let, e7]
    by_cases hn : k < 0
    · rw [decide_eq_true hn]; rfl
    · rw [decide_eq_false hn, decide_eq_true (show k > 5 by omega)]; rfl
  have hk : k = 0 ∨ k = 1 ∨ k = 2 ∨ k = 3 ∨ k = 4 ∨ k = 5 := by omega
  rcases hk with rfl | rfl | rfl | rfl | rfl | rfl
  · have e := pairQ_at r p 0
    unfold PairQ at e
    show ((charabancref11_Pair_27.f 1000 r.1 r.2.1 r.2.2.1 r.2.2.2.1 r.2.2.2.2.1 r.2.2.2.2.2.1 r.2.2.2.2.2.2.1 r.2.2.2.2.2.2.2.1 r.2.2.2.2.2.2.2.2.1 r.2.2.2.2.2.2.2.2.2.1 r.2.2.2.2.2.2.2.2.2.2.1 r.2.2.2.2.2.2.2.2.2.2.2.1 r.2.2.2.2.2.2.2.2.2.2.2.2.1 r.2.2.2.2.2.2.2.2.2.2.2.2.2.1 r.2.2.2.2.2.2.2.2.2.2.2.2.2.2.1 r.2.2.2.2.2.2.2.2.2.2.2.2.2.2.2.1 r.2.2.2.2.2.2.2.2.2.2.2.2.2.2.2.2.1 r.2.2.2.2.2.2.2.2.2.2.2.2.2.2.2.2.2.1 r.2.2.2.2.2.2.2.2.2.2.2.2.2.2.2.2.2.2.1 r.2.2.2.2.2.2.2.2.2.2.2.2.2.2.2.2.2.2.2 p 0).bind fun t43 => (charabancref01_Lo_48.f 1000 t43).bind fun t => (charabancref01_Word_57.f 1000 b t).bind fun t2 => (charabancref11_SetPair_41.f 1000 r.1 r.2.1 r.2.2.1 r.2.2.2.1 r.2.2.2.2.1 r.2.2.2.2.2.1 r.2.2.2.2.2.2.1 r.2.2.2.2.2.2.2.1 r.2.2.2.2.2.2.2.2.1 r.2.2.2.2.2.2.2.2.2.1 r.2.2.2.2.2.2.2.2.2.2.1 r.2.2.2.2.2.2.2.2.2.2.2.1 r.2.2.2.2.2.2.2.2.2.2.2.2.1 r.2.2.2.2.2.2.2.2.2.2.2.2.2.1 r.2.2.2.2.2.2.2.2.2.2.2.2.2.2.1 r.2.2.2.2.2.2.2.2.2.2.2.2.2.2.2.1 r.2.2.2.2.2.2.2.2.2.2.2.2.2.2.2.2.1 r.2.2.2.2.2.2.2.2.2.2.2.2.2.2.2.2.2.1 r.2.2.2.2.2.2.2.2.2.2.2.2.2.2.2.2.2.2.1 r.2.2.2.2.2.2.2.2.2.2.2.2.2.2.2.2.2.2.2 p 0 t2).bind fun y => some ((y.1, y.2.1, y.2.2.1, y.2.2.2.1, y.2.2.2.2.1, y.2.2.2.2.2.1, y.2.2.2.2.2.2.1, y.2.2.2.2.2.2.2.1, y.2.2.2.2.2.2.2.2.1, y.2.2.2.2.2.2.2.2.2.1, y.2.2.2.2.2.2.2.2.2.2.1, y.2.2.2.2.2.2.2.2.2.2.2.1, y.2.2.2.2.2.2.2.2.2.2.2.2.1, y.2.2.2.2.2.2.2.2.2.2.2.2.2.1, y.2.2.2.2.2.2.2.2.2.2.2.2.2.2.1, y.2.2.2.2.2.2.2.2.2.2.2.2.2.2.2.1, y.2.2.2.2.2.2.2.2.2.2.2.2.2.2.2.2.1, y.2.2.2.2.2.2.2.2.2.2.2.2.2.2.2.2.2.1, y.2.2.2.2.2.2.2.2.2.2.2.2.2.2.2.2.2.2.1, y.2.2.2.2.2.2.2.2.2.2.2.2.2.2.2.2.2.2.2) : R20)) = some _
    rw [e, Option.bind_some, (lo_at (hq 0)).2, Option.bind_some, (word_at hb (hm _)).2, Option.bind_some]
    have e2 := setPairQ_at r p 0
    unfold SetPairQ at e2
    rw [e2]
    rfl
  · have e := pairQ_at r p 0
    unfold PairQ at e
    show ((charabancref11_Pair_27.f 1000 r.1 r.2.1 r.2.2.1 r.2.2.2.1 r.2.2.2.2.1 r.2.2.2.2.2.1 r.2.2.2.2.2.2.1 r.2.2.2.2.2.2.2.1 r.2.2.2.2.2.2.2.2.1 r.2.2.2.2.2.2.2.2.2.1 r.2.2.2.2.2.2.2.2.2.2.1 r.2.2.2.2.2.2.2.2.2.2.2.1 r.2.2.2.2.2.2.2.2.2.2.2.2.1 r.2.2.2.2.2.2.2.2.2.2.2.2.2.1 r.2.2.2.2.2.2.2.2.2.2.2.2.2.2.1 r.2.2.2.2.2.2.2.2.2.2.2.2.2.2.2.1 r.2.2.2.2.2.2.2.2.2.2.2.2.2.2.2.2.1 r.2.2.2.2.2.2.2.2.2.2.2.2.2.2.2.2.2.1 r.2.2.2.2.2.2.2.2.2.2.2.2.2.2.2.2.2.2.1 r.2.2.2.2.2.2.2.2.2.2.2.2.2.2.2.2.2.2.2 p 0).bind fun t43 => (charabancref01_Hi_47.f 1000 t43).bind fun t => (charabancref01_Word_57.f 1000 t b).bind fun t2 => (charabancref11_SetPair_41.f 1000 r.1 r.2.1 r.2.2.1 r.2.2.2.1 r.2.2.2.2.1 r.2.2.2.2.2.1 r.2.2.2.2.2.2.1 r.2.2.2.2.2.2.2.1 r.2.2.2.2.2.2.2.2.1 r.2.2.2.2.2.2.2.2.2.1 r.2.2.2.2.2.2.2.2.2.2.1 r.2.2.2.2.2.2.2.2.2.2.2.1 r.2.2.2.2.2.2.2.2.2.2.2.2.1 r.2.2.2.2.2.2.2.2.2.2.2.2.2.1 r.2.2.2.2.2.2.2.2.2.2.2.2.2.2.1 r.2.2.2.2.2.2.2.2.2.2.2.2.2.2.2.1 r.2.2.2.2.2.2.2.2.2.2.2.2.2.2.2.2.1 r.2.2.2.2.2.2.2.2.2.2.2.2.2.2.2.2.2.1 r.2.2.2.2.2.2.2.2.2.2.2.2.2.2.2.2.2.2.1 r.2.2.2.2.2.2.2.2.2.2.2.2.2.2.2.2.2.2.2 p 0 t2).bind fun y => some ((y.1, y.2.1, y.2.2.1, y.2.2.2.1, y.2.2.2.2.1, y.2.2.2.2.2.1, y.2.2.2.2.2.2.1, y.2.2.2.2.2.2.2.1, y.2.2.2.2.2.2.2.2.1, y.2.2.2.2.2.2.2.2.2.1, y.2.2.2.2.2.2.2.2.2.2.1, y.2.2.2.2.2.2.2.2.2.2.2.1, y.2.2.2.2.2.2.2.2.2.2.2.2.1, y.2.2.2.2.2.2.2.2.2.2.2.2.2.1, y.2.2.2.2.2.2.2.2.2.2.2.2.2.2.1, y.2.2.2.2.2.2.2.2.2.2.2.2.2.2.2.1, y.2.2.2.2.2.2.2.2.2.2.2.2.2.2.2.2.1, y.2.2.2.2.2.2.2.2.2.2.2.2.2.2.2.2.2.1, y.2.2.2.2.2.2.2.2.2.2.2.2.2.2.2.2.2.2.1, y.2.2.2.2.2.2.2.2.2.2.2.2.2.2.2.2.2.2.2) : R20)) = some _
    rw [e, Option.bind_some, (hi_at (hq 0)).2, Option.bind_some, (word_at (hd (hq 0)) hb).2, Option.bind_some]
    have e2 := setPairQ_at r p 0
    unfold SetPairQ at e2
    rw [e2]
    show some (putV r p 0 (256 * (prV r p 0 / 256) + b)) = some (putV r p 0 (prV r p 0 / 256 * 256 + b))
    rw [Int.mul_comm]
  · have e := pairQ_at r p 1
    unfold PairQ at e
    show ((charabancref11_Pair_27.f 1000 r.1 r.2.1 r.2.2.1 r.2.2.2.1 r.2.2.2.2.1 r.2.2.2.2.2.1 r.2.2.2.2.2.2.1 r.2.2.2.2.2.2.2.1 r.2.2.2.2.2.2.2.2.1 r.2.2.2.2.2.2.2.2.2.1 r.2.2.2.2.2.2.2.2.2.2.1 r.2.2.2.2.2.2.2.2.2.2.2.1 r.2.2.2.2.2.2.2.2.2.2.2.2.1 r.2.2.2.2.2.2.2.2.2.2.2.2.2.1 r.2.2.2.2.2.2.2.2.2.2.2.2.2.2.1 r.2.2.2.2.2.2.2.2.2.2.2.2.2.2.2.1 r.2.2.2.2.2.2.2.2.2.2.2.2.2.2.2.2.1 r.2.2.2.2.2.2.2.2.2.2.2.2.2.2.2.2.2.1 r.2.2.2.2.2.2.2.2.2.2.2.2.2.2.2.2.2.2.1 r.2.2.2.2.2.2.2.2.2.2.2.2.2.2.2.2.2.2.2 p 1).bind fun t43 => (charabancref01_Lo_48.f 1000 t43).bind fun t => (charabancref01_Word_57.f 1000 b t).bind fun t2 => (charabancref11_SetPair_41.f 1000 r.1 r.2.1 r.2.2.1 r.2.2.2.1 r.2.2.2.2.1 r.2.2.2.2.2.1 r.2.2.2.2.2.2.1 r.2.2.2.2.2.2.2.1 r.2.2.2.2.2.2.2.2.1 r.2.2.2.2.2.2.2.2.2.1 r.2.2.2.2.2.2.2.2.2.2.1 r.2.2.2.2.2.2.2.2.2.2.2.1 r.2.2.2.2.2.2.2.2.2.2.2.2.1 r.2.2.2.2.2.2.2.2.2.2.2.2.2.1 r.2.2.2.2.2.2.2.2.2.2.2.2.2.2.1 r.2.2.2.2.2.2.2.2.2.2.2.2.2.2.2.1 r.2.2.2.2.2.2.2.2.2.2.2.2.2.2.2.2.1 r.2.2.2.2.2.2.2.2.2.2.2.2.2.2.2.2.2.1 r.2.2.2.2.2.2.2.2.2.2.2.2.2.2.2.2.2.2.1 r.2.2.2.2.2.2.2.2.2.2.2.2.2.2.2.2.2.2.2 p 1 t2).bind fun y => some ((y.1, y.2.1, y.2.2.1, y.2.2.2.1, y.2.2.2.2.1, y.2.2.2.2.2.1, y.2.2.2.2.2.2.1, y.2.2.2.2.2.2.2.1, y.2.2.2.2.2.2.2.2.1, y.2.2.2.2.2.2.2.2.2.1, y.2.2.2.2.2.2.2.2.2.2.1, y.2.2.2.2.2.2.2.2.2.2.2.1, y.2.2.2.2.2.2.2.2.2.2.2.2.1, y.2.2.2.2.2.2.2.2.2.2.2.2.2.1, y.2.2.2.2.2.2.2.2.2.2.2.2.2.2.1, y.2.2.2.2.2.2.2.2.2.2.2.2.2.2.2.1, y.2.2.2.2.2.2.2.2.2.2.2.2.2.2.2.2.1, y.2.2.2.2.2.2.2.2.2.2.2.2.2.2.2.2.2.1, y.2.2.2.2.2.2.2.2.2.2.2.2.2.2.2.2.2.2.1, y.2.2.2.2.2.2.2.2.2.2.2.2.2.2.2.2.2.2.2) : R20)) = some _
    rw [e, Option.bind_some, (lo_at (hq 1)).2, Option.bind_some, (word_at hb (hm _)).2, Option.bind_some]
    have e2 := setPairQ_at r p 1
    unfold SetPairQ at e2
    rw [e2]
    rfl
  · have e := pairQ_at r p 1
    unfold PairQ at e
    show ((charabancref11_Pair_27.f 1000 r.1 r.2.1 r.2.2.1 r.2.2.2.1 r.2.2.2.2.1 r.2.2.2.2.2.1 r.2.2.2.2.2.2.1 r.2.2.2.2.2.2.2.1 r.2.2.2.2.2.2.2.2.1 r.2.2.2.2.2.2.2.2.2.1 r.2.2.2.2.2.2.2.2.2.2.1 r.2.2.2.2.2.2.2.2.2.2.2.1 r.2.2.2.2.2.2.2.2.2.2.2.2.1 r.2.2.2.2.2.2.2.2.2.2.2.2.2.1 r.2.2.2.2.2.2.2.2.2.2.2.2.2.2.1 r.2.2.2.2.2.2.2.2.2.2.2.2.2.2.2.1 r.2.2.2.2.2.2.2.2.2.2.2.2.2.2.2.2.1 r.2.2.2.2.2.2.2.2.2.2.2.2.2.2.2.2.2.1 r.2.2.2.2.2.2.2.2.2.2.2.2.2.2.2.2.2.2.1 r.2.2.2.2.2.2.2.2.2.2.2.2.2.2.2.2.2.2.2 p 1).bind fun t43 => (charabancref01_Hi_47.f 1000 t43).bind fun t => (charabancref01_Word_57.f 1000 t b).bind fun t2 => (charabancref11_SetPair_41.f 1000 r.1 r.2.1 r.2.2.1 r.2.2.2.1 r.2.2.2.2.1 r.2.2.2.2.2.1 r.2.2.2.2.2.2.1 r.2.2.2.2.2.2.2.1 r.2.2.2.2.2.2.2.2.1 r.2.2.2.2.2.2.2.2.2.1 r.2.2.2.2.2.2.2.2.2.2.1 r.2.2.2.2.2.2.2.2.2.2.2.1 r.2.2.2.2.2.2.2.2.2.2.2.2.1 r.2.2.2.2.2.2.2.2.2.2.2.2.2.1 r.2.2.2.2.2.2.2.2.2.2.2.2.2.2.1 r.2.2.2.2.2.2.2.2.2.2.2.2.2.2.2.1 r.2.2.2.2.2.2.2.2.2.2.2.2.2.2.2.2.1 r.2.2.2.2.2.2.2.2.2.2.2.2.2.2.2.2.2.1 r.2.2.2.2.2.2.2.2.2.2.2.2.2.2.2.2.2.2.1 r.2.2.2.2.2.2.2.2.2.2.2.2.2.2.2.2.2.2.2 p 1 t2).bind fun y => some ((y.1, y.2.1, y.2.2.1, y.2.2.2.1, y.2.2.2.2.1, y.2.2.2.2.2.1, y.2.2.2.2.2.2.1, y.2.2.2.2.2.2.2.1, y.2.2.2.2.2.2.2.2.1, y.2.2.2.2.2.2.2.2.2.1, y.2.2.2.2.2.2.2.2.2.2.1, y.2.2.2.2.2.2.2.2.2.2.2.1, y.2.2.2.2.2.2.2.2.2.2.2.2.1, y.2.2.2.2.2.2.2.2.2.2.2.2.2.1, y.2.2.2.2.2.2.2.2.2.2.2.2.2.2.1, y.2.2.2.2.2.2.2.2.2.2.2.2.2.2.2.1, y.2.2.2.2.2.2.2.2.2.2.2.2.2.2.2.2.1, y.2.2.2.2.2.2.2.2.2.2.2.2.2.2.2.2.2.1, y.2.2.2.2.2.2.2.2.2.2.2.2.2.2.2.2.2.2.1, y.2.2.2.2.2.2.2.2.2.2.2.2.2.2.2.2.2.2.2) : R20)) = some _
    rw [e, Option.bind_some, (hi_at (hq 1)).2, Option.bind_some, (word_at (hd (hq 1)) hb).2, Option.bind_some]
    have e2 := setPairQ_at r p 1
    unfold SetPairQ at e2
    rw [e2]
    show some (putV r p 1 (256 * (prV r p 1 / 256) + b)) = some (putV r p 1 (prV r p 1 / 256 * 256 + b))
    rw [Int.mul_comm]
  · have e := pairQ_at r p 2
    unfold PairQ at e
    show ((charabancref11_Pair_27.f 1000 r.1 r.2.1 r.2.2.1 r.2.2.2.1 r.2.2.2.2.1 r.2.2.2.2.2.1 r.2.2.2.2.2.2.1 r.2.2.2.2.2.2.2.1 r.2.2.2.2.2.2.2.2.1 r.2.2.2.2.2.2.2.2.2.1 r.2.2.2.2.2.2.2.2.2.2.1 r.2.2.2.2.2.2.2.2.2.2.2.1 r.2.2.2.2.2.2.2.2.2.2.2.2.1 r.2.2.2.2.2.2.2.2.2.2.2.2.2.1 r.2.2.2.2.2.2.2.2.2.2.2.2.2.2.1 r.2.2.2.2.2.2.2.2.2.2.2.2.2.2.2.1 r.2.2.2.2.2.2.2.2.2.2.2.2.2.2.2.2.1 r.2.2.2.2.2.2.2.2.2.2.2.2.2.2.2.2.2.1 r.2.2.2.2.2.2.2.2.2.2.2.2.2.2.2.2.2.2.1 r.2.2.2.2.2.2.2.2.2.2.2.2.2.2.2.2.2.2.2 p 2).bind fun t43 => (charabancref01_Lo_48.f 1000 t43).bind fun t => (charabancref01_Word_57.f 1000 b t).bind fun t2 => (charabancref11_SetPair_41.f 1000 r.1 r.2.1 r.2.2.1 r.2.2.2.1 r.2.2.2.2.1 r.2.2.2.2.2.1 r.2.2.2.2.2.2.1 r.2.2.2.2.2.2.2.1 r.2.2.2.2.2.2.2.2.1 r.2.2.2.2.2.2.2.2.2.1 r.2.2.2.2.2.2.2.2.2.2.1 r.2.2.2.2.2.2.2.2.2.2.2.1 r.2.2.2.2.2.2.2.2.2.2.2.2.1 r.2.2.2.2.2.2.2.2.2.2.2.2.2.1 r.2.2.2.2.2.2.2.2.2.2.2.2.2.2.1 r.2.2.2.2.2.2.2.2.2.2.2.2.2.2.2.1 r.2.2.2.2.2.2.2.2.2.2.2.2.2.2.2.2.1 r.2.2.2.2.2.2.2.2.2.2.2.2.2.2.2.2.2.1 r.2.2.2.2.2.2.2.2.2.2.2.2.2.2.2.2.2.2.1 r.2.2.2.2.2.2.2.2.2.2.2.2.2.2.2.2.2.2.2 p 2 t2).bind fun y => some ((y.1, y.2.1, y.2.2.1, y.2.2.2.1, y.2.2.2.2.1, y.2.2.2.2.2.1, y.2.2.2.2.2.2.1, y.2.2.2.2.2.2.2.1, y.2.2.2.2.2.2.2.2.1, y.2.2.2.2.2.2.2.2.2.1, y.2.2.2.2.2.2.2.2.2.2.1, y.2.2.2.2.2.2.2.2.2.2.2.1, y.2.2.2.2.2.2.2.2.2.2.2.2.1, y.2.2.2.2.2.2.2.2.2.2.2.2.2.1, y.2.2.2.2.2.2.2.2.2.2.2.2.2.2.1, y.2.2.2.2.2.2.2.2.2.2.2.2.2.2.2.1, y.2.2.2.2.2.2.2.2.2.2.2.2.2.2.2.2.1, y.2.2.2.2.2.2.2.2.2.2.2.2.2.2.2.2.2.1, y.2.2.2.2.2.2.2.2.2.2.2.2.2.2.2.2.2.2.1, y.2.2.2.2.2.2.2.2.2.2.2.2.2.2.2.2.2.2.2) : R20)) = some _
    rw [e, Option.bind_some, (lo_at (hq 2)).2, Option.bind_some, (word_at hb (hm _)).2, Option.bind_some]
    have e2 := setPairQ_at r p 2
    unfold SetPairQ at e2
    rw [e2]
    rfl
  · have e := pairQ_at r p 2
    unfold PairQ at e
    show ((charabancref11_Pair_27.f 1000 r.1 r.2.1 r.2.2.1 r.2.2.2.1 r.2.2.2.2.1 r.2.2.2.2.2.1 r.2.2.2.2.2.2.1 r.2.2.2.2.2.2.2.1 r.2.2.2.2.2.2.2.2.1 r.2.2.2.2.2.2.2.2.2.1 r.2.2.2.2.2.2.2.2.2.2.1 r.2.2.2.2.2.2.2.2.2.2.2.1 r.2.2.2.2.2.2.2.2.2.2.2.2.1 r.2.2.2.2.2.2.2.2.2.2.2.2.2.1 r.2.2.2.2.2.2.2.2.2.2.2.2.2.2.1 r.2.2.2.2.2.2.2.2.2.2.2.2.2.2.2.1 r.2.2.2.2.2.2.2.2.2.2.2.2.2.2.2.2.1 r.2.2.2.2.2.2.2.2.2.2.2.2.2.2.2.2.2.1 r.2.2.2.2.2.2.2.2.2.2.2.2.2.2.2.2.2.2.1 r.2.2.2.2.2.2.2.2.2.2.2.2.2.2.2.2.2.2.2 p 2).bind fun t43 => (charabancref01_Hi_47.f 1000 t43).bind fun t => (charabancref01_Word_57.f 1000 t b).bind fun t2 => (charabancref11_SetPair_41.f 1000 r.1 r.2.1 r.2.2.1 r.2.2.2.1 r.2.2.2.2.1 r.2.2.2.2.2.1 r.2.2.2.2.2.2.1 r.2.2.2.2.2.2.2.1 r.2.2.2.2.2.2.2.2.1 r.2.2.2.2.2.2.2.2.2.1 r.2.2.2.2.2.2.2.2.2.2.1 r.2.2.2.2.2.2.2.2.2.2.2.1 r.2.2.2.2.2.2.2.2.2.2.2.2.1 r.2.2.2.2.2.2.2.2.2.2.2.2.2.1 r.2.2.2.2.2.2.2.2.2.2.2.2.2.2.1 r.2.2.2.2.2.2.2.2.2.2.2.2.2.2.2.1 r.2.2.2.2.2.2.2.2.2.2.2.2.2.2.2.2.1 r.2.2.2.2.2.2.2.2.2.2.2.2.2.2.2.2.2.1 r.2.2.2.2.2.2.2.2.2.2.2.2.2.2.2.2.2.2.1 r.2.2.2.2.2.2.2.2.2.2.2.2.2.2.2.2.2.2.2 p 2 t2).bind fun y => some ((y.1, y.2.1, y.2.2.1, y.2.2.2.1, y.2.2.2.2.1, y.2.2.2.2.2.1, y.2.2.2.2.2.2.1, y.2.2.2.2.2.2.2.1, y.2.2.2.2.2.2.2.2.1, y.2.2.2.2.2.2.2.2.2.1, y.2.2.2.2.2.2.2.2.2.2.1, y.2.2.2.2.2.2.2.2.2.2.2.1, y.2.2.2.2.2.2.2.2.2.2.2.2.1, y.2.2.2.2.2.2.2.2.2.2.2.2.2.1, y.2.2.2.2.2.2.2.2.2.2.2.2.2.2.1, y.2.2.2.2.2.2.2.2.2.2.2.2.2.2.2.1, y.2.2.2.2.2.2.2.2.2.2.2.2.2.2.2.2.1, y.2.2.2.2.2.2.2.2.2.2.2.2.2.2.2.2.2.1, y.2.2.2.2.2.2.2.2.2.2.2.2.2.2.2.2.2.2.1, y.2.2.2.2.2.2.2.2.2.2.2.2.2.2.2.2.2.2.2) : R20)) = some _
    rw [e, Option.bind_some, (hi_at (hq 2)).2, Option.bind_some, (word_at (hd (hq 2)) hb).2, Option.bind_some]
    have e2 := setPairQ_at r p 2
    unfold SetPairQ at e2
    rw [e2]
    show some (putV r p 2 (256 * (prV r p 2 / 256) + b)) = some (putV r p 2 (prV r p 2 / 256 * 256 + b))
    rw [Int.mul_comm]
end Go.Proofs.YtajnhlkkbhobiaaDoor.Reg
