/- The plain law of RegsSets. -/
import Derived.Test.YtajnhlkkbhobiaaDoorRegRegsSets
import Derived.Test.YtajnhlkkbhobiaaDoorRegLibU
set_option maxHeartbeats 4000000
set_option linter.unusedVariables false
namespace Go.Proofs.YtajnhlkkbhobiaaDoor.Pure
open Go.RowKit Go.Eng Go.Proofs.YtajnhlkkbhobiaaDoor.Reg
theorem u16w {x : Int} (h : (Lit.int .u16 x).wf = true) : u16 x := by simpa [u16, Lit.wf, IntKind.min, IntKind.max, IntKind.bits, IntKind.signed] using h
theorem u8w {x : Int} (h : (Lit.int .u8 x).wf = true) : u8 x := by simpa [u8, Lit.wf, IntKind.min, IntKind.max, IntKind.bits, IntKind.signed] using h
theorem i64w {x : Int} (h : (Lit.int .i64 x).wf = true) : i64 x := by simpa [i64, Lit.wf, IntKind.min, IntKind.max, IntKind.bits, IntKind.signed] using h
def L0 (r : R20) (k w : Int) (f : Nat) (p : Int) : Option (Lp Unit Unit) := charabanclaw11_RegsSets_7.l0 1000 r.1 r.2.1 r.2.2.1 r.2.2.2.1 r.2.2.2.2.1 r.2.2.2.2.2.1 r.2.2.2.2.2.2.1 r.2.2.2.2.2.2.2.1 r.2.2.2.2.2.2.2.2.1 r.2.2.2.2.2.2.2.2.2.1 r.2.2.2.2.2.2.2.2.2.2.1 r.2.2.2.2.2.2.2.2.2.2.2.1 r.2.2.2.2.2.2.2.2.2.2.2.2.1 r.2.2.2.2.2.2.2.2.2.2.2.2.2.1 r.2.2.2.2.2.2.2.2.2.2.2.2.2.2.1 r.2.2.2.2.2.2.2.2.2.2.2.2.2.2.2.1 r.2.2.2.2.2.2.2.2.2.2.2.2.2.2.2.2.1 r.2.2.2.2.2.2.2.2.2.2.2.2.2.2.2.2.2.1 r.2.2.2.2.2.2.2.2.2.2.2.2.2.2.2.2.2.2.1 r.2.2.2.2.2.2.2.2.2.2.2.2.2.2.2.2.2.2.2 k w f p
theorem L0_step (r : R20) (k w : Int) (f : Nat) (p : Int) : L0 r k w (f + 1) p = cond (decide (p < 8)) ((SetR r p k (IntKind.wrap .u8 w)).bind fun y => (SetQ r p k (IntKind.wrap .u8 w)).bind fun z => Let (fun (t110 : Bool) => cond t110 (some (Lp.ret ())) (L0 r k w f (IntKind.wrap .i64 (p + 1)))) (fun j113 => cond (!eq20 y z) (j113 true) ((SetPairR r p k w).bind fun y => (SetPairQ r p k w).bind fun z => j113 (!eq20 y z)))) (some (Lp.go ())) := rfl
theorem wrap_byte (w : Int) : u8 (IntKind.wrap .u8 w) := by unfold u8; rw [IntKind.wrap_u8]; omega
theorem L0_all {r : R20} (hr : okR r) (k w : Int) : ∀ (f : Nat) (p : Int), -1 ≤ p → p ≤ 8 → 8 - p < f → L0 r k w f p = some (Lp.go ())
  | 0, p, h1, h2, h3 => by omega
  | f + 1, p, h1, h2, h3 => by
    rw [L0_step]
    by_cases hp : p < 8
    · rw [decide_eq_true hp, cond_t, setR_at hr p k (wrap_byte w), setQ_at hr p k (wrap_byte w), setPairR_at, setPairQ_at]
      simp only [Option.bind_some, eq20_refl, Bool.not_true, Let, cond_f]
      rw [wrap_i64 (by omega) (by omega)]
      exact L0_all hr k w f (p + 1) (by omega) (by omega) (by omega)
    · rw [decide_eq_false hp, cond_f]
theorem RegsSets (a0 : Int × Int × Int × Int × Int × Int × Int × Int × Int × Int × Int × Int × Int × Int × Int × Bool × Bool × Bool × Bool × Int) (a1 : Int) (a2 : Int) (w0 : ((Lit.int .u16 a0.1).wf = true ∧ ((Lit.int .u16 a0.2.1).wf = true ∧ ((Lit.int .u16 a0.2.2.1).wf = true ∧ ((Lit.int .u16 a0.2.2.2.1).wf = true ∧ ((Lit.int .u16 a0.2.2.2.2.1).wf = true ∧ ((Lit.int .u16 a0.2.2.2.2.2.1).wf = true ∧ ((Lit.int .u16 a0.2.2.2.2.2.2.1).wf = true ∧ ((Lit.int .u16 a0.2.2.2.2.2.2.2.1).wf = true ∧ ((Lit.int .u16 a0.2.2.2.2.2.2.2.2.1).wf = true ∧ ((Lit.int .u16 a0.2.2.2.2.2.2.2.2.2.1).wf = true ∧ ((Lit.int .u16 a0.2.2.2.2.2.2.2.2.2.2.1).wf = true ∧ ((Lit.int .u16 a0.2.2.2.2.2.2.2.2.2.2.2.1).wf = true ∧ ((Lit.int .u16 a0.2.2.2.2.2.2.2.2.2.2.2.2.1).wf = true ∧ ((Lit.int .u8 a0.2.2.2.2.2.2.2.2.2.2.2.2.2.1).wf = true ∧ ((Lit.int .u8 a0.2.2.2.2.2.2.2.2.2.2.2.2.2.2.1).wf = true ∧ (True ∧ (True ∧ (True ∧ (True ∧ (Lit.int .i64 a0.2.2.2.2.2.2.2.2.2.2.2.2.2.2.2.2.2.2.2).wf = true)))))))))))))))))))) (w1 : (Lit.int .i64 a1).wf = true) (w2 : (Lit.int .u16 a2).wf = true) : ∃ K, charabanclaw11_RegsSets_7.f K a0.1 a0.2.1 a0.2.2.1 a0.2.2.2.1 a0.2.2.2.2.1 a0.2.2.2.2.2.1 a0.2.2.2.2.2.2.1 a0.2.2.2.2.2.2.2.1 a0.2.2.2.2.2.2.2.2.1 a0.2.2.2.2.2.2.2.2.2.1 a0.2.2.2.2.2.2.2.2.2.2.1 a0.2.2.2.2.2.2.2.2.2.2.2.1 a0.2.2.2.2.2.2.2.2.2.2.2.2.1 a0.2.2.2.2.2.2.2.2.2.2.2.2.2.1 a0.2.2.2.2.2.2.2.2.2.2.2.2.2.2.1 a0.2.2.2.2.2.2.2.2.2.2.2.2.2.2.2.1 a0.2.2.2.2.2.2.2.2.2.2.2.2.2.2.2.2.1 a0.2.2.2.2.2.2.2.2.2.2.2.2.2.2.2.2.2.1 a0.2.2.2.2.2.2.2.2.2.2.2.2.2.2.2.2.2.2.1 a0.2.2.2.2.2.2.2.2.2.2.2.2.2.2.2.2.2.2.2 a1 a2 = some true := by
  have hr : okR a0 := ⟨u16w w0.1, u16w w0.2.1, u16w w0.2.2.1, u16w w0.2.2.2.1, u16w w0.2.2.2.2.2.2.2.2.1, u16w w0.2.2.2.2.2.2.2.2.2.1, u16w w0.2.2.2.2.2.2.2.2.2.2.1⟩
  refine ⟨1000, ?_⟩
  unfold charabanclaw11_RegsSets_7.f
  rw [awake11]
  have h := L0_all hr a1 a2 1000 (-1) (by omega) (by omega) (by omega)
  unfold L0 at h
  rw [Option.bind_some, h]
  rfl
end Go.Proofs.YtajnhlkkbhobiaaDoor.Pure
