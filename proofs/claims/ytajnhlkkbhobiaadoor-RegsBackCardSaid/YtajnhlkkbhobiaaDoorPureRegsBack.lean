/- The plain law of RegsBack. -/
import Derived.Test.YtajnhlkkbhobiaaDoorRegRegsBack
import Derived.Test.YtajnhlkkbhobiaaDoorRegLibU
set_option maxHeartbeats 4000000
set_option linter.unusedVariables false
namespace Go.Proofs.YtajnhlkkbhobiaaDoor.Pure
open Go.RowKit Go.Eng Go.Proofs.YtajnhlkkbhobiaaDoor.Reg
theorem u16w {x : Int} (h : (Lit.int .u16 x).wf = true) : u16 x := by simpa [u16, Lit.wf, IntKind.min, IntKind.max, IntKind.bits, IntKind.signed] using h
theorem u8w {x : Int} (h : (Lit.int .u8 x).wf = true) : u8 x := by simpa [u8, Lit.wf, IntKind.min, IntKind.max, IntKind.bits, IntKind.signed] using h
theorem i64w {x : Int} (h : (Lit.int .i64 x).wf = true) : i64 x := by simpa [i64, Lit.wf, IntKind.min, IntKind.max, IntKind.bits, IntKind.signed] using h
def B0 (r : R20) (p w k : Int) (s : R20) (f : Nat) (j : Int) : Option (Lp Unit Unit) := charabanclaw11_RegsBack_8.l0 1000 r.1 r.2.1 r.2.2.1 r.2.2.2.1 r.2.2.2.2.1 r.2.2.2.2.2.1 r.2.2.2.2.2.2.1 r.2.2.2.2.2.2.2.1 r.2.2.2.2.2.2.2.2.1 r.2.2.2.2.2.2.2.2.2.1 r.2.2.2.2.2.2.2.2.2.2.1 r.2.2.2.2.2.2.2.2.2.2.2.1 r.2.2.2.2.2.2.2.2.2.2.2.2.1 r.2.2.2.2.2.2.2.2.2.2.2.2.2.1 r.2.2.2.2.2.2.2.2.2.2.2.2.2.2.1 r.2.2.2.2.2.2.2.2.2.2.2.2.2.2.2.1 r.2.2.2.2.2.2.2.2.2.2.2.2.2.2.2.2.1 r.2.2.2.2.2.2.2.2.2.2.2.2.2.2.2.2.2.1 r.2.2.2.2.2.2.2.2.2.2.2.2.2.2.2.2.2.2.1 r.2.2.2.2.2.2.2.2.2.2.2.2.2.2.2.2.2.2.2 p w k s.1 s.2.1 s.2.2.1 s.2.2.2.1 s.2.2.2.2.1 s.2.2.2.2.2.1 s.2.2.2.2.2.2.1 s.2.2.2.2.2.2.2.1 s.2.2.2.2.2.2.2.2.1 s.2.2.2.2.2.2.2.2.2.1 s.2.2.2.2.2.2.2.2.2.2.1 s.2.2.2.2.2.2.2.2.2.2.2.1 s.2.2.2.2.2.2.2.2.2.2.2.2.1 s.2.2.2.2.2.2.2.2.2.2.2.2.2.1 s.2.2.2.2.2.2.2.2.2.2.2.2.2.2.1 s.2.2.2.2.2.2.2.2.2.2.2.2.2.2.2.1 s.2.2.2.2.2.2.2.2.2.2.2.2.2.2.2.2.1 s.2.2.2.2.2.2.2.2.2.2.2.2.2.2.2.2.2.1 s.2.2.2.2.2.2.2.2.2.2.2.2.2.2.2.2.2.2.1 s.2.2.2.2.2.2.2.2.2.2.2.2.2.2.2.2.2.2.2 f j
def B1 (r : R20) (p w : Int) (f : Nat) (k : Int) : Option (Lp Unit Unit) := charabanclaw11_RegsBack_8.l1 1000 r.1 r.2.1 r.2.2.1 r.2.2.2.1 r.2.2.2.2.1 r.2.2.2.2.2.1 r.2.2.2.2.2.2.1 r.2.2.2.2.2.2.2.1 r.2.2.2.2.2.2.2.2.1 r.2.2.2.2.2.2.2.2.2.1 r.2.2.2.2.2.2.2.2.2.2.1 r.2.2.2.2.2.2.2.2.2.2.2.1 r.2.2.2.2.2.2.2.2.2.2.2.2.1 r.2.2.2.2.2.2.2.2.2.2.2.2.2.1 r.2.2.2.2.2.2.2.2.2.2.2.2.2.2.1 r.2.2.2.2.2.2.2.2.2.2.2.2.2.2.2.1 r.2.2.2.2.2.2.2.2.2.2.2.2.2.2.2.2.1 r.2.2.2.2.2.2.2.2.2.2.2.2.2.2.2.2.2.1 r.2.2.2.2.2.2.2.2.2.2.2.2.2.2.2.2.2.2.1 r.2.2.2.2.2.2.2.2.2.2.2.2.2.2.2.2.2.2.2 p w f k
def B2 (r : R20) (p w : Int) (f : Nat) (k : Int) : Option (Lp Unit Unit) := charabanclaw11_RegsBack_8.l2 1000 r.1 r.2.1 r.2.2.1 r.2.2.2.1 r.2.2.2.2.1 r.2.2.2.2.2.1 r.2.2.2.2.2.2.1 r.2.2.2.2.2.2.2.1 r.2.2.2.2.2.2.2.2.1 r.2.2.2.2.2.2.2.2.2.1 r.2.2.2.2.2.2.2.2.2.2.1 r.2.2.2.2.2.2.2.2.2.2.2.1 r.2.2.2.2.2.2.2.2.2.2.2.2.1 r.2.2.2.2.2.2.2.2.2.2.2.2.2.1 r.2.2.2.2.2.2.2.2.2.2.2.2.2.2.1 r.2.2.2.2.2.2.2.2.2.2.2.2.2.2.2.1 r.2.2.2.2.2.2.2.2.2.2.2.2.2.2.2.2.1 r.2.2.2.2.2.2.2.2.2.2.2.2.2.2.2.2.2.1 r.2.2.2.2.2.2.2.2.2.2.2.2.2.2.2.2.2.2.1 r.2.2.2.2.2.2.2.2.2.2.2.2.2.2.2.2.2.2.2 p w f k
theorem B0_step (r : R20) (p w k : Int) (s : R20) (f : Nat) (j : Int) : B0 r p w k s (f + 1) j = cond (decide (j < 8)) (Let (fun (t157 : Bool) => cond t157 (some (Lp.ret ())) (B0 r p w k s f (IntKind.wrap .i64 (j + 1)))) (fun j160 => cond (j != k) ((GetR s p j).bind fun t148 => (GetR r p j).bind fun t150 => j160 (t148 != t150)) (j160 false))) (some (Lp.go ())) := rfl
theorem B1_step (r : R20) (p w : Int) (f : Nat) (k : Int) : B1 r p w (f + 1) k = cond (decide (k < 8)) ((SetR r p k (IntKind.wrap .u8 ((IntKind.wrap .u8 w) + (IntKind.wrap .u8 k)))).bind fun s => Let (fun (t110 : Bool) => cond t110 (some (Lp.ret ())) ((B0 r p w k s 1000 0).bind (fun x164 => Lp.elim x164 (fun _ => some (Lp.ret ())) (fun _ => B1 r p w f (IntKind.wrap .i64 (k + 1)))))) (fun j113 => cond (k != 6) ((GetR s p k).bind fun t53 => cond (t53 != (IntKind.wrap .u8 ((IntKind.wrap .u8 w) + (IntKind.wrap .u8 k)))) (j113 true) ((GetR r p k).bind fun t59 => (SetR s p k t59).bind fun y => j113 (!eq20 y r)))
    ((GetR r p k).bind fun t85 => (SetR s p k t85).bind fun y => j113 (!eq20 y r)))) (some (Lp.go ())) := rfl
theorem B2_step (r : R20) (p w : Int) (f : Nat) (k : Int) : B2 r p w (f + 1) k = cond (decide (k < 4)) ((SetPairR r p k w).bind fun s => (PairR s p k).bind fun t216 => Let (fun (t247 : Bool) => cond t247 (some (Lp.ret ())) (B2 r p w f (IntKind.wrap .i64 (k + 1)))) (fun j250 => cond (t216 != w) (j250 true) ((PairR r p k).bind fun t222 => (SetPairR s p k t222).bind fun y => j250 (!eq20 y r)))) (some (Lp.go ())) := rfl
theorem wrap_byte (w : Int) : u8 (IntKind.wrap .u8 w) := by unfold u8; rw [IntKind.wrap_u8]; omega
theorem B0_all {r s : R20} (hr : okR r) (hs : okR s) (p w k : Int) (h : ∀ j, 0 ≤ j → j ≤ 7 → j ≠ k → getV s p j = getV r p j) : ∀ (f : Nat) (j : Int), 0 ≤ j → j ≤ 8 → 8 - j < f → B0 r p w k s f j = some (Lp.go ())
  | 0, j, h1, h2, h3 => by omega
  | f + 1, j, h1, h2, h3 => by
    rw [B0_step]
    by_cases hj : j < 8
    · rw [decide_eq_true hj, cond_t, getR_at hs, getR_at hr, wrap_i64 (by omega) (by omega)]
      have ih := B0_all hr hs p w k h f (j + 1) (by omega) (by omega) (by omega)
      simp only [Option.bind_some, Let]
      by_cases hk : j = k
      · rw [show (j != k) = false by simpa using hk, cond_f, cond_f, ih]
      · rw [show (j != k) = true by simpa using hk, cond_t, h j h1 (by omega) hk, bne_self_eq_false, cond_f, ih]
    · rw [decide_eq_false hj, cond_f]
theorem B1_all {r : R20} (hr : okR r) (p w : Int) : ∀ (f : Nat) (k : Int), 0 ≤ k → k ≤ 8 → 8 - k < f → B1 r p w f k = some (Lp.go ())
  | 0, k, h1, h2, h3 => by omega
  | f + 1, k, h1, h2, h3 => by
    rw [B1_step]
    by_cases hk : k < 8
    · have hb := wrap_byte (IntKind.wrap .u8 w + IntKind.wrap .u8 k)
      generalize IntKind.wrap .u8 (IntKind.wrap .u8 w + IntKind.wrap .u8 k) = b at hb ⊢
      have hs := set_in hr p k hb
      rw [decide_eq_true hk, cond_t, setR_at hr p k hb, Option.bind_some, getR_at hs, getR_at hr, wrap_i64 (by omega) (by omega)]
      have e0 := B0_all hr hs p w k (fun j g1 g2 g3 => get_other hr p k j hb ⟨h1, by omega⟩ ⟨g1, g2⟩ g3) 1000 0 (by omega) (by omega) (by omega)
      have ih := B1_all hr p w f (k + 1) (by omega) (by omega) (by omega)
      simp only [Option.bind_some, Let, setR_at hs p k (getV_in hr p k), set_back hr p k hb ⟨h1, by omega⟩, eq20_refl, Bool.not_true, cond_f, e0, Lp.elim, ih]
      by_cases h6 : k = 6
      · rw [show (k != 6) = false by simpa using h6, cond_f]
      · rw [show (k != 6) = true by simpa using h6, cond_t, get_set hr p k hb ⟨h1, by omega⟩ h6, bne_self_eq_false, cond_f]
    · rw [decide_eq_false hk, cond_f]
theorem B2_all {r : R20} (p w : Int) : ∀ (f : Nat) (k : Int), 0 ≤ k → k ≤ 4 → 4 - k < f → B2 r p w f k = some (Lp.go ())
  | 0, k, h1, h2, h3 => by omega
  | f + 1, k, h1, h2, h3 => by
    rw [B2_step]
    by_cases hk : k < 4
    · have ih := B2_all (r := r) p w f (k + 1) (by omega) (by omega) (by omega)
      rw [decide_eq_true hk, cond_t, setPairR_at, Option.bind_some, pairR_at, Option.bind_some, pairR_at, wrap_i64 (by omega) (by omega), pr_put r p k w ⟨h1, by omega⟩, if_pos rfl]
      simp only [Option.bind_some, Let, setPairR_at, put_put, put_pr, eq20_refl, Bool.not_true, bne_self_eq_false, cond_f, ih]
    · rw [decide_eq_false hk, cond_f]
theorem RegsBack (a0 : Int × Int × Int × Int × Int × Int × Int × Int × Int × Int × Int × Int × Int × Int × Int × Bool × Bool × Bool × Bool × Int) (a1 : Int) (a2 : Int) (w0 : ((Lit.int .u16 a0.1).wf = true ∧ ((Lit.int .u16 a0.2.1).wf = true ∧ ((Lit.int .u16 a0.2.2.1).wf = true ∧ ((Lit.int .u16 a0.2.2.2.1).wf = true ∧ ((Lit.int .u16 a0.2.2.2.2.1).wf = true ∧ ((Lit.int .u16 a0.2.2.2.2.2.1).wf = true ∧ ((Lit.int .u16 a0.2.2.2.2.2.2.1).wf = true ∧ ((Lit.int .u16 a0.2.2.2.2.2.2.2.1).wf = true ∧ ((Lit.int .u16 a0.2.2.2.2.2.2.2.2.1).wf = true ∧ ((Lit.int .u16 a0.2.2.2.2.2.2.2.2.2.1).wf = true ∧ ((Lit.int .u16 a0.2.2.2.2.2.2.2.2.2.2.1).wf = true ∧ ((Lit.int .u16 a0.2.2.2.2.2.2.2.2.2.2.2.1).wf = true ∧ ((Lit.int .u16 a0.2.2.2.2.2.2.2.2.2.2.2.2.1).wf = true ∧ ((Lit.int .u8 a0.2.2.2.2.2.2.2.2.2.2.2.2.2.1).wf = true ∧ ((Lit.int .u8 a0.2.2.2.2.2.2.2.2.2.2.2.2.2.2.1).wf = true ∧ (True ∧ (True ∧ (True ∧ (True ∧ (Lit.int .i64 a0.2.2.2.2.2.2.2.2.2.2.2.2.2.2.2.2.2.2.2).wf = true)))))))))))))))))))) (w1 : (Lit.int .i64 a1).wf = true) (w2 : (Lit.int .u16 a2).wf = true) : ∃ K, charabanclaw11_RegsBack_8.f K a0.1 a0.2.1 a0.2.2.1 a0.2.2.2.1 a0.2.2.2.2.1 a0.2.2.2.2.2.1 a0.2.2.2.2.2.2.1 a0.2.2.2.2.2.2.2.1 a0.2.2.2.2.2.2.2.2.1 a0.2.2.2.2.2.2.2.2.2.1 a0.2.2.2.2.2.2.2.2.2.2.1 a0.2.2.2.2.2.2.2.2.2.2.2.1 a0.2.2.2.2.2.2.2.2.2.2.2.2.1 a0.2.2.2.2.2.2.2.2.2.2.2.2.2.1 a0.2.2.2.2.2.2.2.2.2.2.2.2.2.2.1 a0.2.2.2.2.2.2.2.2.2.2.2.2.2.2.2.1 a0.2.2.2.2.2.2.2.2.2.2.2.2.2.2.2.2.1 a0.2.2.2.2.2.2.2.2.2.2.2.2.2.2.2.2.2.1 a0.2.2.2.2.2.2.2.2.2.2.2.2.2.2.2.2.2.2.1 a0.2.2.2.2.2.2.2.2.2.2.2.2.2.2.2.2.2.2.2 a1 a2 = some true := by
  have hr : okR a0 := ⟨u16w w0.1, u16w w0.2.1, u16w w0.2.2.1, u16w w0.2.2.2.1, u16w w0.2.2.2.2.2.2.2.2.1, u16w w0.2.2.2.2.2.2.2.2.2.1, u16w w0.2.2.2.2.2.2.2.2.2.2.1⟩
  refine ⟨1000, ?_⟩
  unfold charabanclaw11_RegsBack_8.f
  rw [awake11]
  have h1 := B1_all hr a1 a2 1000 0 (by omega) (by omega) (by omega)
  have h2 := B2_all (r := a0) a1 a2 1000 0 (by omega) (by omega) (by omega)
  unfold B1 at h1
  unfold B2 at h2
  rw [Option.bind_some, h1]
  simp only [Bool.not_true, cond_f, Option.bind_some, Lp.elim]
  rw [h2]
  rfl
end Go.Proofs.YtajnhlkkbhobiaaDoor.Pure
