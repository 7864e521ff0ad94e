/- The engine's texts: a byte of a text, a piece of it, two texts as one. -/
import Derived.Test.YtbcepghanbkncaaGreatDoorEngTab
set_option linter.unusedVariables false
set_option linter.unusedSimpArgs false
namespace Go.Eng
open Go.RowKit
section
variable {P : Program} {F : Fun P} {e : Env} {w : World} {n i : Nat}
theorem run_strIdx {T0 : TypeId} {s : ByteArray} {j : Int} (hx : idxVOf F n i e = some (T0, .string s, j)) (hT : P.underlying T0 = some .string) (hr : inR j s.size = true) : (execOp e.eval (opOf F.B n i)).run P w = .ok (.value (.int .u8 (btD s j))) w := by
  obtain ⟨h0, h1⟩ := inR_spec hr
  unfold idxVOf at hx
  cases hop : (opOf F.B n i).op <;> simp only [hop] at hx <;> first | (cases hx; done) | skip
  rename_i T' x y
  cases hy : e.eval y <;> simp only [hy] at hx <;> first | (cases hx; done) | skip
  simp only [Option.some.injEq, Prod.mk.injEq] at hx
  obtain ⟨rfl, hxv, rfl⟩ := hx
  rename_i kk jj
  have hlt : jj.toNat < s.size := by omega
  have hg : s[jj.toNat]? = some s[jj.toNat] := by simp [hlt]
  unfold execOp
  simp [hop, hy, hxv, Instr.index, asIntOf, run_underlying hT, h0, hg, btD]
def catOf (F : Fun P) (n i : Nat) (e : Env) : Option (ByteArray × ByteArray) :=
  match (opOf F.B n i).op with
  | .binOp .add t x y _ => (match e.eval x, e.eval y with | .string a, .string b => some (a, b) | _, _ => none)
  | _ => none
theorem run_cat {a b : ByteArray} (hx : catOf F n i e = some (a, b)) (h : mayCat a.size b.size = true) : (execOp e.eval (opOf F.B n i)).run P w = .ok (.value (.string (a ++ b))) w := by
  unfold catOf at hx
  split at hx <;> first | (cases hx; done) | skip
  rename_i t x y p hop
  split at hx <;> first | (cases hx; done) | skip
  rename_i a1 b1 h1 h2
  simp only [Option.some.injEq, Prod.mk.injEq] at hx
  obtain ⟨rfl, rfl⟩ := hx
  have hle : ((a1.size + b1.size : Nat) : Int) ≤ 9223372036854775807 := of_decide_eq_true h
  unfold execOp
  simp only [hop, h1, h2]
  simp [eqGuard, binOp, Op.stringOp]
  omega
def strCut (s : ByteArray) (lo hi : Int) : ByteArray := s.extract lo.toNat hi.toNat
theorem run_strCut {T : TypeId} {s : ByteArray} {lo hi : Option Int} (hx : cutOf F n i e = some (T, .string s, lo, hi)) (hT : P.underlying T = some .string) (h : cutR (lo.getD 0) (hi.getD s.size) s.size = true) :
    (execOp e.eval (opOf F.B n i)).run P w = .ok (.value (.string (strCut s (lo.getD 0) (hi.getD s.size)))) w := by
  simp only [cutR, Bool.and_eq_true, decide_eq_true_eq] at h
  obtain ⟨⟨h0, h1⟩, h2⟩ := h
  unfold cutOf at hx
  cases hop : (opOf F.B n i).op <;> simp only [hop] at hx <;> first | (cases hx; done) | skip
  rename_i T' x l h m
  cases m with
  | some m => simp at hx
  | none =>
    simp only at hx
    have key : ∀ (l' h' : Option Value), (∀ v, l' = some v → ∃ k, v = .int k (lo.getD 0)) → (l' = none → lo = none) → (∀ v, h' = some v → ∃ k, v = .int k (hi.getD s.size)) → (h' = none → hi = none) → T' = T →
        (Instr.sliceAt T' (.string s) l' h' none).run P w = .ok (.string (strCut s (lo.getD 0) (hi.getD s.size))) w := by
      intro l' h' hl1 hl2 hh1 hh2 hTT
      subst hTT
      have hnn : 0 ≤ hi.getD s.size := by omega
      have e1 : ((hi.getD s.size).toNat : Int) = hi.getD s.size := Int.toNat_of_nonneg hnn
      cases l' with
      | none =>
        have := hl2 rfl
        subst this
        cases h' with
        | none =>
          have := hh2 rfl
          subst this
          simp [Instr.sliceAt, Instr.slice, run_underlying hT, Instr.sliceBounds, strCut]
        | some v =>
          obtain ⟨kk, rfl⟩ := hh1 v rfl
          simp [Instr.sliceAt, Instr.slice, run_underlying hT, Instr.sliceBounds, Instr.sliceBound, asIntOf, strCut, h2, hnn]
      | some v0 =>
        obtain ⟨k0, rfl⟩ := hl1 v0 rfl
        cases h' with
        | none =>
          have := hh2 rfl
          subst this
          simp at h1
          simp [Instr.sliceAt, Instr.slice, run_underlying hT, Instr.sliceBounds, Instr.sliceBound, asIntOf, strCut, h0, h1]
        | some v =>
          obtain ⟨kk, rfl⟩ := hh1 v rfl
          simp [Instr.sliceAt, Instr.slice, run_underlying hT, Instr.sliceBounds, Instr.sliceBound, asIntOf, strCut, h2, hnn, h0, h1, e1]
    unfold execOp
    simp only [hop]
    cases l with
    | none =>
      cases h with
      | none =>
        simp only [Option.some.injEq, Prod.mk.injEq] at hx
        obtain ⟨hT', hv, rfl, rfl⟩ := hx
        have := key none none (by simp) (by simp) (by simp) (by simp) hT'
        simp [hv, this]
      | some h =>
        cases hh : e.eval h <;> simp only [hh] at hx <;> first | (cases hx; done) | skip
        rename_i kk j
        simp only [Option.some.injEq, Prod.mk.injEq] at hx
        obtain ⟨hT', hv, rfl, rfl⟩ := hx
        have := key none (some (.int kk j)) (by simp) (by simp) (by simp) (by simp) hT'
        simp [hv, hh, this]
    | some l =>
      cases hl : e.eval l <;> simp only [hl] at hx <;> first | (cases hx; done) | skip
      rename_i k0 j0
      cases h with
      | none =>
        simp only [Option.some.injEq, Prod.mk.injEq] at hx
        obtain ⟨hT', hv, rfl, rfl⟩ := hx
        have := key (some (.int k0 j0)) none (by simp) (by simp) (by simp) (by simp) hT'
        simp [hv, hl, this]
      | some h =>
        cases hh : e.eval h <;> simp only [hh] at hx <;> first | (cases hx; done) | skip
        rename_i kk j
        simp only [Option.some.injEq, Prod.mk.injEq] at hx
        obtain ⟨hT', hv, rfl, rfl⟩ := hx
        have := key (some (.int k0 j0)) (some (.int kk j)) (by simp) (by simp) (by simp) (by simp) hT'
        simp [hv, hl, hh, this]
end
#print axioms run_strCut
end Go.Eng
