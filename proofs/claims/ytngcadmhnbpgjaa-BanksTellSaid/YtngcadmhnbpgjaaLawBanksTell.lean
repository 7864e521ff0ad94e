/- The row of the statement BanksTell, out of its Pure and its told function; own work. -/
import Derived.Test.YtngcadmhnbpgjaaRows
import Derived.Test.YtngcadmhnbpgjaaBanksBanksTell
import Derived.Test.YtngcadmhnbpgjaaPureBanksTell
import Derived.Test.YtngcadmhnbpgjaaEngOpen
namespace Go.Proofs.Ytngcadmhnbpgjaa.banksTell
open Go.ChangeShapes Go.WideShapes Go.ChangeAt Go.RowKit Go.Eng
open Go.ChangeMaps (open_string shut_string)
set_option linter.unusedVariables false
set_option linter.unusedSimpArgs false
theorem own : ownKnob Try.prog.godebug = none := by kernel_rfl
theorem laidOut : laidOutB Try.prog = true := by kernel_rfl
set_option maxRecDepth 100000 in
theorem lifted (os : Os) (started : os.Started) (H : Type) (enc : TypeId × Value → H) :
    ReturnsInHanded {} Try.checked os 6 .any (Rows.banksTellSpec.pre6 enc Try.prog Try.f6 Rows.banksTellRow.domain false) (Rows.banksTellSpec.post enc Try.prog Try.f6 false true false false) := by
  refine returnsInHanded_of_change_sized (C := Try.checked) own started (by kernel_rfl) Try.func6
    (ChangeSpec.witness6 (enc := enc) (C := Try.checked) false ⟨#[], #[.agg #[.slice none 0 0, .int .i64 0, .int .i64 0, .slice none 0 0], .int .u16 0], []⟩ 8 (by kernel_rfl) (by kernel_rfl) (by kernel_rfl) (by kernel_rfl)) ?_
  intro W base args ds gs before hval0 hW hcnd hsz0 _
  have hsz : (DataW.weightsEach Try.prog (Try.f6.params.toList ++ Rows.banksTellSpec.plain.varTypes Try.prog) (ds ++ gs)).all (· ≤ reachBytes) = true := hsz0
  have hval : ∀ (j : Nat) t v, Try.f6.params[j]? = some t → args[j]? = some v → Value.okWide Try.prog W .any base t v := hval0
  have hW' := hW
  obtain ⟨p, q, hA0, hV, rfl, hfz, hnd⟩ := hW
  have hA : DataW.TrodAll enc Try.prog W 0 (fun _ => true) true Try.f6.params.toList args.toList ds p := hA0
  rw [Try.params6] at hA hval hsz
  obtain ⟨v0, vs0, d0, ds0, p0, q0, hargs, rfl, rfl, h0, r0⟩ := trodAll_cons hA
  obtain ⟨v1, vs1, d1, ds1, p1, q1, rfl, rfl, rfl, h1, r1⟩ := trodAll_cons r0
  obtain ⟨rfl, rfl, rfl⟩ := trodAll_nil r1
  obtain rfl : args = #[v0, v1] := by cases args; simp_all
  obtain ⟨rfl, rfl⟩ := trodVars_none hV
  have k0 := h0
  have lt0 := Trod_lt h0
  obtain ⟨cs0, rfl, _⟩ := okWide_struct Try.underlying53 (hval 0 53 v0 rfl rfl)
  obtain ⟨a0, ha0, w0⟩ := Opn.get (Opn.struct Try.underlying53 (by kernel_rfl) (OpnL.cons (o := 0) (o2 := 1) (by kernel_rfl) (Opn.slice (B := 1) Try.underlying38 (by kernel_rfl) (by kernel_rfl) (by decide) (Opn.int Try.underlying5 (by kernel_rfl))) (by kernel_rfl) (OpnL.cons (o := 1) (o2 := 2) (by kernel_rfl) (Opn.int Try.underlying3 (by kernel_rfl)) (by kernel_rfl) (OpnL.cons (o := 2) (o2 := 3) (by kernel_rfl) (Opn.int Try.underlying3 (by kernel_rfl)) (by kernel_rfl) (OpnL.one (o := 3) (by kernel_rfl) (Opn.slice (B := 16) Try.underlying51 (by kernel_rfl) (by kernel_rfl) (by decide) (Opn.struct Try.underlying87 (by kernel_rfl) (OpnL.cons (o := 0) (o2 := 1) (by kernel_rfl) (Opn.int Try.underlying3 (by kernel_rfl)) (by kernel_rfl) (OpnL.one (o := 1) (by kernel_rfl) (Opn.int Try.underlying5 (by kernel_rfl))))))))))) hsz 0 rfl rfl h0
  obtain ⟨_, _, hcs0, ⟨v0_0, rfl, e0_0⟩, ⟨_, _, rfl, rfl, ⟨_, _, rfl, rfl, ⟨v0_1, rfl, e0_1⟩⟩⟩⟩ := ha0
  obtain rfl : cs0 = #[v0_0, .int .i64 a0.2.1, .int .i64 a0.2.2.1, v0_1] := Array.ext' hcs0
  obtain ⟨Ae0_0, ce0_0, rfl⟩ := e0_0.form
  obtain ⟨Ae0_1, ce0_1, rfl⟩ := e0_1.form
  have k1 := h1
  have lt1 := Trod_lt h1
  obtain ⟨a1, rfl, rfl, rfl, w1⟩ := open_int Try.underlying54 (hval 1 54 v1 rfl rfl) h1
  clear hA0 hval0 hsz0 hsz
  obtain ⟨K, hK⟩ := Pure.BanksTell a0 a1 w0 w1
  refine (Go.Proofs.Ytngcadmhnbpgjaa.Banks.charabanclaw19_BanksTell_6_ok K (fun _ => False) W Ae0_0 ce0_0 Ae0_1 ce0_1 a0.1 a0.2.1 a0.2.2.1 a0.2.2.2 a1 (fun _ hf => hf.elim) e0_0 e0_1 hK).mono fun e W' ⟨he, bel⟩ => ?_
  subst he
  exact ⟨_, rfl, _, _, _, [], _, [], hW', trodAll_mk1 (shut_bool Try.underlying4 _), (trodAll_cons_mk (Below.trod laidOut (by kernel_rfl) (of_decide_eq_true (by kernel_rfl)) k0 bel lt0) (trodAll_cons_mk (Below.trod laidOut (by kernel_rfl) (of_decide_eq_true (by kernel_rfl)) k1 bel lt1) trodAll_mk0)), rfl, bel.frame _, fun h => by cases h⟩
theorem over : Rows.banksTellRow.holds Try.pinned (OpenSpec.ofChange Rows.banksTellSpec) :=
  OpenClaim.holds_of_wide 6 Try.f6 rfl rfl rfl rfl rfl rfl rfl ⟨rfl, rfl, rfl, rfl, rfl⟩ rfl rfl rfl rfl rfl (by kernel_rfl) Try.func6 (by kernel_rfl)
    (of_decide_eq_true (by kernel_rfl)) (by unfold Func.isWrapper; first | (rw [if_pos (by decide +kernel)]; kernel_rfl) | (rw [if_neg (by decide +kernel)]; exact ⟨rfl, rfl⟩))
    (fun os started H enc _ => lifted os started H enc)
theorem proved : Rows.BanksTellSaid := over
#print axioms proved
end Go.Proofs.Ytngcadmhnbpgjaa.banksTell
namespace Go.Proofs.Ytngcadmhnbpgjaa
/-- The row, under a short name, for the claim. -/
theorem banksTell_holds : Rows.BanksTellSaid := banksTell.proved
end Go.Proofs.Ytngcadmhnbpgjaa
