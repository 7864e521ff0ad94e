/- The row of the statement BanksKeep, out of its Pure and its told function; own work. -/
import Derived.Test.YtngcadmhnbpgjaaRows
import Derived.Test.YtngcadmhnbpgjaaBanksBanksKeep
import Derived.Test.YtngcadmhnbpgjaaPureBanksKeep
import Derived.Test.YtngcadmhnbpgjaaEngOpen
namespace Go.Proofs.Ytngcadmhnbpgjaa.banksKeep
open Go.ChangeShapes Go.WideShapes Go.ChangeAt Go.RowKit Go.Eng
open Go.ChangeMaps (open_string shut_string)
set_option linter.unusedVariables false
set_option linter.unusedSimpArgs false
theorem own : ownKnob Try.prog.godebug = none := by kernel_rfl
theorem laidOut : laidOutB Try.prog = true := by kernel_rfl
set_option maxRecDepth 100000 in
theorem lifted (os : Os) (started : os.Started) (H : Type) (enc : TypeId × Value → H) :
    ReturnsInHanded {} Try.checked os 9 .any (Rows.banksKeepSpec.pre6 enc Try.prog Try.f9 Rows.banksKeepRow.domain false) (Rows.banksKeepSpec.post enc Try.prog Try.f9 false true false false) := by
  refine returnsInHanded_of_change_sized (C := Try.checked) own started (by kernel_rfl) Try.func9
    (ChangeSpec.witness6 (enc := enc) (C := Try.checked) false ⟨#[], #[.agg #[.slice none 0 0, .int .i64 0, .int .i64 0, .slice none 0 0], .int .u16 0, .int .u16 0], []⟩ 8 (by kernel_rfl) (by kernel_rfl) (by kernel_rfl) (by kernel_rfl)) ?_
  intro W base args ds gs before hval0 hW hcnd hsz0 _
  have hsz : (DataW.weightsEach Try.prog (Try.f9.params.toList ++ Rows.banksKeepSpec.plain.varTypes Try.prog) (ds ++ gs)).all (· ≤ reachBytes) = true := hsz0
  have hval : ∀ (j : Nat) t v, Try.f9.params[j]? = some t → args[j]? = some v → Value.okWide Try.prog W .any base t v := hval0
  have hW' := hW
  obtain ⟨p, q, hA0, hV, rfl, hfz, hnd⟩ := hW
  have hA : DataW.TrodAll enc Try.prog W 0 (fun _ => true) true Try.f9.params.toList args.toList ds p := hA0
  rw [Try.params9] at hA hval hsz
  obtain ⟨v0, vs0, d0, ds0, p0, q0, hargs, rfl, rfl, h0, r0⟩ := trodAll_cons hA
  obtain ⟨v1, vs1, d1, ds1, p1, q1, rfl, rfl, rfl, h1, r1⟩ := trodAll_cons r0
  obtain ⟨v2, vs2, d2, ds2, p2, q2, rfl, rfl, rfl, h2, r2⟩ := trodAll_cons r1
  obtain ⟨rfl, rfl, rfl⟩ := trodAll_nil r2
  obtain rfl : args = #[v0, v1, v2] := by cases args; simp_all
  obtain ⟨rfl, rfl⟩ := trodVars_none hV
  have k0 := h0
  have lt0 := Trod_lt h0
  obtain ⟨cs0, rfl, _⟩ := okWide_struct Try.underlying53 (hval 0 53 v0 rfl rfl)
  obtain ⟨a0, ha0, w0⟩ := Opn.get (Opn.struct Try.underlying53 (by kernel_rfl) (OpnL.cons (o := 0) (o2 := 1) (by kernel_rfl) (Opn.slice (B := 1) Try.underlying38 (by kernel_rfl) (by kernel_rfl) (by decide) (Opn.int Try.underlying5 (by kernel_rfl))) (by kernel_rfl) (OpnL.cons (o := 1) (o2 := 2) (by kernel_rfl) (Opn.int Try.underlying3 (by kernel_rfl)) (by kernel_rfl) (OpnL.cons (o := 2) (o2 := 3) (by kernel_rfl) (Opn.int Try.underlying3 (by kernel_rfl)) (by kernel_rfl) (OpnL.one (o := 3) (by kernel_rfl) (Opn.slice (B := 16) Try.underlying51 (by kernel_rfl) (by kernel_rfl) (by decide) (Opn.struct Try.underlying87 (by kernel_rfl) (OpnL.cons (o := 0) (o2 := 1) (by kernel_rfl) (Opn.int Try.underlying3 (by kernel_rfl)) (by kernel_rfl) (OpnL.one (o := 1) (by kernel_rfl) (Opn.int Try.underlying5 (by kernel_rfl))))))))))) hsz 0 rfl rfl h0
  obtain ⟨_, _, hcs0, ⟨v0_0, rfl, e0_0⟩, ⟨_, _, rfl, rfl, ⟨_, _, rfl, rfl, ⟨v0_1, rfl, e0_1⟩⟩⟩⟩ := ha0
  obtain rfl : cs0 = #[v0_0, .int .i64 a0.2.1, .int .i64 a0.2.2.1, v0_1] := Array.ext' hcs0
  obtain ⟨Ae0_0, ce0_0, rfl⟩ := e0_0.form
  obtain ⟨Ae0_1, ce0_1, rfl⟩ := e0_1.form
  have k1 := h1
  have lt1 := Trod_lt h1
  obtain ⟨a1, rfl, rfl, rfl, w1⟩ := open_int Try.underlying54 (hval 1 54 v1 rfl rfl) h1
  have k2 := h2
  have lt2 := Trod_lt h2
  obtain ⟨a2, rfl, rfl, rfl, w2⟩ := open_int Try.underlying54 (hval 2 54 v2 rfl rfl) h2
  clear hA0 hval0 hsz0 hsz
  obtain ⟨K, hK⟩ := Pure.BanksKeep a0 a1 a2 w0 w1 w2
  refine (Go.Proofs.Ytngcadmhnbpgjaa.Banks.charabanclaw19_BanksKeep_9_ok K (fun _ => False) W Ae0_0 ce0_0 Ae0_1 ce0_1 a0.1 a0.2.1 a0.2.2.1 a0.2.2.2 a1 a2 (fun _ hf => hf.elim) e0_0 e0_1 hK).mono fun e W' ⟨he, bel⟩ => ?_
  subst he
  exact ⟨_, rfl, _, _, _, [], _, [], hW', trodAll_mk1 (shut_bool Try.underlying4 _), (trodAll_cons_mk (Below.trod laidOut (by kernel_rfl) (of_decide_eq_true (by kernel_rfl)) k0 bel lt0) (trodAll_cons_mk (Below.trod laidOut (by kernel_rfl) (of_decide_eq_true (by kernel_rfl)) k1 bel lt1) (trodAll_cons_mk (Below.trod laidOut (by kernel_rfl) (of_decide_eq_true (by kernel_rfl)) k2 bel lt2) trodAll_mk0))), rfl, bel.frame _, fun h => by cases h⟩
theorem over : Rows.banksKeepRow.holds Try.pinned (OpenSpec.ofChange Rows.banksKeepSpec) :=
  OpenClaim.holds_of_wide 9 Try.f9 rfl rfl rfl rfl rfl rfl rfl ⟨rfl, rfl, rfl, rfl, rfl⟩ rfl rfl rfl rfl rfl (by kernel_rfl) Try.func9 (by kernel_rfl)
    (of_decide_eq_true (by kernel_rfl)) (by unfold Func.isWrapper; first | (rw [if_pos (by decide +kernel)]; kernel_rfl) | (rw [if_neg (by decide +kernel)]; exact ⟨rfl, rfl⟩))
    (fun os started H enc _ => lifted os started H enc)
theorem proved : Rows.BanksKeepSaid := over
#print axioms proved
end Go.Proofs.Ytngcadmhnbpgjaa.banksKeep
namespace Go.Proofs.Ytngcadmhnbpgjaa
/-- The row, under a short name, for the claim. -/
theorem banksKeep_holds : Rows.BanksKeepSaid := banksKeep.proved
end Go.Proofs.Ytngcadmhnbpgjaa
