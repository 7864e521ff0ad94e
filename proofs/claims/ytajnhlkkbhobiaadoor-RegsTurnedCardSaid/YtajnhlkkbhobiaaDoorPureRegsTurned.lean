/- The plain law of RegsTurned. -/
import Derived.Test.YtajnhlkkbhobiaaDoorRegRegsTurned
import Derived.Test.YtajnhlkkbhobiaaDoorRegLibU
set_option maxHeartbeats 4000000
set_option linter.unusedVariables false
namespace Go.Proofs.YtajnhlkkbhobiaaDoor.Pure
open Go.RowKit Go.Eng Go.Proofs.YtajnhlkkbhobiaaDoor.Reg
theorem u16w {x : Int} (h : (Lit.int .u16 x).wf = true) : u16 x := by simpa [u16, Lit.wf, IntKind.min, IntKind.max, IntKind.bits, IntKind.signed] using h
theorem u8w {x : Int} (h : (Lit.int .u8 x).wf = true) : u8 x := by simpa [u8, Lit.wf, IntKind.min, IntKind.max, IntKind.bits, IntKind.signed] using h
theorem i64w {x : Int} (h : (Lit.int .i64 x).wf = true) : i64 x := by simpa [i64, Lit.wf, IntKind.min, IntKind.max, IntKind.bits, IntKind.signed] using h
def ExxR (r : R20) : Option R20 := regs_Exx_28.f 1000 r.1 r.2.1 r.2.2.1 r.2.2.2.1 r.2.2.2.2.1 r.2.2.2.2.2.1 r.2.2.2.2.2.2.1 r.2.2.2.2.2.2.2.1 r.2.2.2.2.2.2.2.2.1 r.2.2.2.2.2.2.2.2.2.1 r.2.2.2.2.2.2.2.2.2.2.1 r.2.2.2.2.2.2.2.2.2.2.2.1 r.2.2.2.2.2.2.2.2.2.2.2.2.1 r.2.2.2.2.2.2.2.2.2.2.2.2.2.1 r.2.2.2.2.2.2.2.2.2.2.2.2.2.2.1 r.2.2.2.2.2.2.2.2.2.2.2.2.2.2.2.1 r.2.2.2.2.2.2.2.2.2.2.2.2.2.2.2.2.1 r.2.2.2.2.2.2.2.2.2.2.2.2.2.2.2.2.2.1 r.2.2.2.2.2.2.2.2.2.2.2.2.2.2.2.2.2.2.1 r.2.2.2.2.2.2.2.2.2.2.2.2.2.2.2.2.2.2.2
def SwapR (r : R20) : Option R20 := regs_Swap_30.f 1000 r.1 r.2.1 r.2.2.1 r.2.2.2.1 r.2.2.2.2.1 r.2.2.2.2.2.1 r.2.2.2.2.2.2.1 r.2.2.2.2.2.2.2.1 r.2.2.2.2.2.2.2.2.1 r.2.2.2.2.2.2.2.2.2.1 r.2.2.2.2.2.2.2.2.2.2.1 r.2.2.2.2.2.2.2.2.2.2.2.1 r.2.2.2.2.2.2.2.2.2.2.2.2.1 r.2.2.2.2.2.2.2.2.2.2.2.2.2.1 r.2.2.2.2.2.2.2.2.2.2.2.2.2.2.1 r.2.2.2.2.2.2.2.2.2.2.2.2.2.2.2.1 r.2.2.2.2.2.2.2.2.2.2.2.2.2.2.2.2.1 r.2.2.2.2.2.2.2.2.2.2.2.2.2.2.2.2.2.1 r.2.2.2.2.2.2.2.2.2.2.2.2.2.2.2.2.2.2.1 r.2.2.2.2.2.2.2.2.2.2.2.2.2.2.2.2.2.2.2
def ResetR (r : R20) : Option R20 := regs_Reset_34.f 1000 r.1 r.2.1 r.2.2.1 r.2.2.2.1 r.2.2.2.2.1 r.2.2.2.2.2.1 r.2.2.2.2.2.2.1 r.2.2.2.2.2.2.2.1 r.2.2.2.2.2.2.2.2.1 r.2.2.2.2.2.2.2.2.2.1 r.2.2.2.2.2.2.2.2.2.2.1 r.2.2.2.2.2.2.2.2.2.2.2.1 r.2.2.2.2.2.2.2.2.2.2.2.2.1 r.2.2.2.2.2.2.2.2.2.2.2.2.2.1 r.2.2.2.2.2.2.2.2.2.2.2.2.2.2.1 r.2.2.2.2.2.2.2.2.2.2.2.2.2.2.2.1 r.2.2.2.2.2.2.2.2.2.2.2.2.2.2.2.2.1 r.2.2.2.2.2.2.2.2.2.2.2.2.2.2.2.2.2.1 r.2.2.2.2.2.2.2.2.2.2.2.2.2.2.2.2.2.2.1 r.2.2.2.2.2.2.2.2.2.2.2.2.2.2.2.2.2.2.2
def law (r : R20) (n m : Int) : Option Bool := charabanclaw11_RegsTurned_9.f 1000 r.1 r.2.1 r.2.2.1 r.2.2.2.1 r.2.2.2.2.1 r.2.2.2.2.2.1 r.2.2.2.2.2.2.1 r.2.2.2.2.2.2.2.1 r.2.2.2.2.2.2.2.2.1 r.2.2.2.2.2.2.2.2.2.1 r.2.2.2.2.2.2.2.2.2.2.1 r.2.2.2.2.2.2.2.2.2.2.2.1 r.2.2.2.2.2.2.2.2.2.2.2.2.1 r.2.2.2.2.2.2.2.2.2.2.2.2.2.1 r.2.2.2.2.2.2.2.2.2.2.2.2.2.2.1 r.2.2.2.2.2.2.2.2.2.2.2.2.2.2.2.1 r.2.2.2.2.2.2.2.2.2.2.2.2.2.2.2.2.1 r.2.2.2.2.2.2.2.2.2.2.2.2.2.2.2.2.2.1 r.2.2.2.2.2.2.2.2.2.2.2.2.2.2.2.2.2.2.1 r.2.2.2.2.2.2.2.2.2.2.2.2.2.2.2.2.2.2.2 n m
theorem law_eq (r : R20) (n m : Int) : law r n m = (charabanclaw11_awake_23.f 1000).bind fun t10 => cond (!t10) (some false) ((TickR r (band .i64 n 65535)).bind fun s => (ExxR r).bind fun y => (ExxR y).bind fun y2 => cond (eq20 y2 r) ((SwapR r).bind fun y => (SwapR y).bind fun y2 => cond (eq20 y2 r) ((TickR s (band .i64 m 65535)).bind fun y => (TickR r (IntKind.wrap .i64 ((band .i64 n 65535) + (band .i64 m 65535)))).bind fun z => cond (eq20 y z) (cond ((band .u8 (bxor .u8 s.2.2.2.2.2.2.2.2.2.2.2.2.2.2.1 r.2.2.2.2.2.2.2.2.2.2.2.2.2.2.1) 128) == 0) ((TickR s (IntKind.wrap .i64 (0 - (band .i64 n 65535)))).bind fun y => cond (eq20 y r)
    ((ResetR r).bind fun y => (ResetR y).bind fun y2 => (ResetR r).bind fun y3 => cond (eq20 y2 y3) ((SwapR r).bind fun y => (ExxR y).bind fun y2 => (ExxR r).bind fun y3 => (SwapR y3).bind fun y4 => some (eq20 y2 y4)) (some false)) (some false)) (some false)) (some false)) (some false)) (some false)) := rfl
theorem band16 (n : Int) : band .i64 n 65535 = n % 65536 := by
  have h1 : (BitVec.ofInt 64 n &&& BitVec.ofInt 64 65535).toNat = (n % 65536).toNat := by
    rw [BitVec.toNat_and, BitVec.toNat_ofInt, show (BitVec.ofInt 64 65535).toNat = 2 ^ 16 - 1 from rfl, Nat.and_two_pow_sub_one_eq_mod]
    omega
  have : band .i64 n 65535 = IntKind.wrap .i64 (((BitVec.ofInt 64 n &&& BitVec.ofInt 64 65535).toNat : Nat) : Int) := rfl
  rw [this, h1, IntKind.wrap_i64]
  omega
theorem xorb : ([0, 1].all fun a => (List.range 128).all fun x => (List.range 128).all fun y => band .u8 (bxor .u8 ((a : Nat) * 128 + (x : Nat) : Int) ((a : Nat) * 128 + (y : Nat) : Int)) 128 == 0) = true := by kernel_rfl
theorem mem01 {n : Nat} (h : n < 2) : n ∈ [0, 1] := by
  have : n = 0 ∨ n = 1 := by omega
  rcases this with rfl | rfl <;> simp
theorem xor_top {x y : Int} (hx : u8 x) (hy : u8 y) (h : x / 128 = y / 128) : (band .u8 (bxor .u8 x y) 128 == 0) = true := by
  obtain ⟨x0, x1⟩ := hx
  obtain ⟨y0, y1⟩ := hy
  have g := List.all_eq_true.1 (List.all_eq_true.1 (List.all_eq_true.1 xorb (x / 128).toNat (mem01 (by omega))) (x % 128).toNat (List.mem_range.2 (by omega))) (y % 128).toNat (List.mem_range.2 (by omega))
  have e1 : (((x / 128).toNat : Nat) : Int) * 128 + (((x % 128).toNat : Nat) : Int) = x := by omega
  have e2 : (((x / 128).toNat : Nat) : Int) * 128 + (((y % 128).toNat : Nat) : Int) = y := by omega
  rw [e1, e2] at g
  exact g
theorem tick_in {r : R20} (h : u8 r.2.2.2.2.2.2.2.2.2.2.2.2.2.2.1) (n : Int) : u8 (tickV r n).2.2.2.2.2.2.2.2.2.2.2.2.2.2.1 := by
  obtain ⟨h0, h1⟩ := h
  show u8 (_ / 128 * 128 + (_ + n) % 128)
  exact ⟨by omega, by omega⟩
theorem tick_two (r : R20) (n m : Int) (h : u8 r.2.2.2.2.2.2.2.2.2.2.2.2.2.2.1) : tickV (tickV r n) m = tickV r (n + m) := by
  obtain ⟨h0, h1⟩ := h
  have : ∀ x : Int, 0 ≤ x → x ≤ 255 → (x / 128 * 128 + (x + n) % 128) / 128 * 128 + (x / 128 * 128 + (x + n) % 128 + m) % 128 = x / 128 * 128 + (x + (n + m)) % 128 := fun x g1 g2 => by omega
  unfold tickV
  simp only [this _ h0 h1]
theorem tick_none (r : R20) (h : u8 r.2.2.2.2.2.2.2.2.2.2.2.2.2.2.1) : tickV r 0 = r := by
  obtain ⟨h0, h1⟩ := h
  have : ∀ x : Int, 0 ≤ x → x ≤ 255 → x / 128 * 128 + (x + 0) % 128 = x := fun x g1 g2 => by omega
  unfold tickV
  simp only [this _ h0 h1]
theorem RegsTurned (a0 : Int × Int × Int × Int × Int × Int × Int × Int × Int × Int × Int × Int × Int × Int × Int × Bool × Bool × Bool × Bool × Int) (a1 : Int) (a2 : Int) (w0 : ((Lit.int .u16 a0.1).wf = true ∧ ((Lit.int .u16 a0.2.1).wf = true ∧ ((Lit.int .u16 a0.2.2.1).wf = true ∧ ((Lit.int .u16 a0.2.2.2.1).wf = true ∧ ((Lit.int .u16 a0.2.2.2.2.1).wf = true ∧ ((Lit.int .u16 a0.2.2.2.2.2.1).wf = true ∧ ((Lit.int .u16 a0.2.2.2.2.2.2.1).wf = true ∧ ((Lit.int .u16 a0.2.2.2.2.2.2.2.1).wf = true ∧ ((Lit.int .u16 a0.2.2.2.2.2.2.2.2.1).wf = true ∧ ((Lit.int .u16 a0.2.2.2.2.2.2.2.2.2.1).wf = true ∧ ((Lit.int .u16 a0.2.2.2.2.2.2.2.2.2.2.1).wf = true ∧ ((Lit.int .u16 a0.2.2.2.2.2.2.2.2.2.2.2.1).wf = true ∧ ((Lit.int .u16 a0.2.2.2.2.2.2.2.2.2.2.2.2.1).wf = true ∧ ((Lit.int .u8 a0.2.2.2.2.2.2.2.2.2.2.2.2.2.1).wf = true ∧ ((Lit.int .u8 a0.2.2.2.2.2.2.2.2.2.2.2.2.2.2.1).wf = true ∧ (True ∧ (True ∧ (True ∧ (True ∧ (Lit.int .i64 a0.2.2.2.2.2.2.2.2.2.2.2.2.2.2.2.2.2.2.2).wf = true)))))))))))))))))))) (w1 : (Lit.int .i64 a1).wf = true) (w2 : (Lit.int .i64 a2).wf = true) : ∃ K, charabanclaw11_RegsTurned_9.f K a0.1 a0.2.1 a0.2.2.1 a0.2.2.2.1 a0.2.2.2.2.1 a0.2.2.2.2.2.1 a0.2.2.2.2.2.2.1 a0.2.2.2.2.2.2.2.1 a0.2.2.2.2.2.2.2.2.1 a0.2.2.2.2.2.2.2.2.2.1 a0.2.2.2.2.2.2.2.2.2.2.1 a0.2.2.2.2.2.2.2.2.2.2.2.1 a0.2.2.2.2.2.2.2.2.2.2.2.2.1 a0.2.2.2.2.2.2.2.2.2.2.2.2.2.1 a0.2.2.2.2.2.2.2.2.2.2.2.2.2.2.1 a0.2.2.2.2.2.2.2.2.2.2.2.2.2.2.2.1 a0.2.2.2.2.2.2.2.2.2.2.2.2.2.2.2.2.1 a0.2.2.2.2.2.2.2.2.2.2.2.2.2.2.2.2.2.1 a0.2.2.2.2.2.2.2.2.2.2.2.2.2.2.2.2.2.2.1 a0.2.2.2.2.2.2.2.2.2.2.2.2.2.2.2.2.2.2.2 a1 a2 = some true := by
  have h14 : u8 a0.2.2.2.2.2.2.2.2.2.2.2.2.2.2.1 := u8w w0.2.2.2.2.2.2.2.2.2.2.2.2.2.2.1
  refine ⟨1000, ?_⟩
  show law a0 a1 a2 = some true
  have ht := tick_in h14 (a1 % 65536)
  have hx := xor_top ht h14 (by
    obtain ⟨g0, g1⟩ := h14
    show (_ / 128 * 128 + (_ + a1 % 65536) % 128) / 128 = _
    omega)
  rw [law_eq, awake11, band16, band16, tickR_at h14, Option.bind_some, Option.bind_some, Bool.not_true, cond_f]
  rw [tickR_at ht, tickR_at ht, tickR_at h14, wrap_i64 (x := a1 % 65536 + a2 % 65536) (by omega) (by omega), wrap_i64 (x := 0 - a1 % 65536) (by omega) (by omega), tick_two a0 _ _ h14, tick_two a0 _ _ h14, show a1 % 65536 + (0 - a1 % 65536) = 0 by omega, tick_none a0 h14, hx]
  have c1 : ∀ X Y : Option Bool, ((ExxR a0).bind fun y => (ExxR y).bind fun y2 => cond (eq20 y2 a0) X Y) = X := fun X Y => by
    show cond (eq20 a0 a0) X Y = X
    rw [eq20_refl]; rfl
  have c2 : ∀ X Y : Option Bool, ((SwapR a0).bind fun y => (SwapR y).bind fun y2 => cond (eq20 y2 a0) X Y) = X := fun X Y => by
    show cond (eq20 a0 a0) X Y = X
    rw [eq20_refl]; rfl
  have c3 : ∀ X Y : Option Bool, ((ResetR a0).bind fun y => (ResetR y).bind fun y2 => (ResetR a0).bind fun y3 => cond (eq20 y2 y3) X Y) = X := fun X Y => by
    obtain ⟨z, hz⟩ : ∃ z, ResetR a0 = some z ∧ ResetR z = some z := ⟨_, rfl, rfl⟩
    rw [hz.1, Option.bind_some, hz.2, Option.bind_some, Option.bind_some, eq20_refl]; rfl
  have c4 : ((SwapR a0).bind fun y => (ExxR y).bind fun y2 => (ExxR a0).bind fun y3 => (SwapR y3).bind fun y4 => some (eq20 y2 y4)) = some true := by
    obtain ⟨y, z, x, h1, h2, h3, h4⟩ : ∃ y z x, SwapR a0 = some y ∧ ExxR y = some z ∧ ExxR a0 = some x ∧ SwapR x = some z := ⟨_, _, _, rfl, rfl, rfl, rfl⟩
    rw [h1, Option.bind_some, h2, Option.bind_some, h3, Option.bind_some, h4, Option.bind_some, eq20_refl]
  rw [c1, c2, Option.bind_some, Option.bind_some, eq20_refl, cond_t, cond_t, Option.bind_some, eq20_refl, cond_t, c3, c4]
end Go.Proofs.YtajnhlkkbhobiaaDoor.Pure
