/- The row of the statement DecodeNext, out of its Pure and its told function; own work. -/
import Derived.Test.YtmcdkmakjjlcnaaRows
import Derived.Test.YtmcdkmakjjlcnaaDecDecodeNext
import Derived.Test.YtmcdkmakjjlcnaaPureDecodeNext
import Derived.Test.YtmcdkmakjjlcnaaEngOpen
namespace Go.Proofs.Ytmcdkmakjjlcnaa.decodeNext
open Go.ChangeShapes Go.WideShapes Go.ChangeAt Go.RowKit Go.Eng
open Go.ChangeMaps (open_string shut_string)
set_option linter.unusedVariables false
set_option linter.unusedSimpArgs false
theorem own : ownKnob Try.prog.godebug = none := by kernel_rfl
theorem laidOut : laidOutB Try.prog = true := by kernel_rfl
set_option maxRecDepth 100000 in
theorem lifted (os : Os) (started : os.Started) (H : Type) (enc : TypeId × Value → H) :
    ReturnsInHanded {} Try.checked os 4 .any (Rows.decodeNextSpec.pre6 enc Try.prog Try.f4 Rows.decodeNextRow.domain false) (Rows.decodeNextSpec.post enc Try.prog Try.f4 false true false false) := by
  refine returnsInHanded_of_change_sized (C := Try.checked) own started (by kernel_rfl) Try.func4
    (ChangeSpec.witness6 (enc := enc) (C := Try.checked) false ⟨#[], #[.slice none 0 0], []⟩ 8 (by kernel_rfl) (by kernel_rfl) (by kernel_rfl) (by kernel_rfl)) ?_
  intro W base args ds gs before hval0 hW hcnd hsz0 _
  have hsz : (DataW.weightsEach Try.prog (Try.f4.params.toList ++ Rows.decodeNextSpec.plain.varTypes Try.prog) (ds ++ gs)).all (· ≤ reachBytes) = true := hsz0
  have hval : ∀ (j : Nat) t v, Try.f4.params[j]? = some t → args[j]? = some v → Value.okWide Try.prog W .any base t v := hval0
  have hW' := hW
  obtain ⟨p, q, hA0, hV, rfl, hfz, hnd⟩ := hW
  have hA : DataW.TrodAll enc Try.prog W 0 (fun _ => true) true Try.f4.params.toList args.toList ds p := hA0
  rw [Try.params4] at hA hval hsz
  obtain ⟨v0, vs0, d0, ds0, p0, q0, hargs, rfl, rfl, h0, r0⟩ := trodAll_cons hA
  obtain ⟨rfl, rfl, rfl⟩ := trodAll_nil r0
  obtain rfl : args = #[v0] := by cases args; simp_all
  obtain ⟨rfl, rfl⟩ := trodVars_none hV
  have k0 := h0
  have lt0 := Trod_lt h0
  obtain ⟨A0, len0, cap0, rfl⟩ := okWide_slice Try.underlying27 (hval 0 27 v0 rfl rfl)
  obtain ⟨a0, rfl, hs0, w0⟩ := Opn.getSl (Opn.slice (B := 1) Try.underlying27 (by kernel_rfl) (by kernel_rfl) (by decide) (Opn.int Try.underlying5 (by kernel_rfl))) hsz 0 rfl rfl h0
  clear hA0 hval0 hsz0 hsz
  obtain ⟨K, hK⟩ := Pure.DecodeNext a0 w0
  refine (Go.Proofs.Ytmcdkmakjjlcnaa.Dec.charabanclaw08_DecodeNext_4_ok K (fun _ => False) W A0 cap0 a0 (fun _ hf => hf.elim) hs0 hK).mono fun e W' ⟨he, bel⟩ => ?_
  subst he
  exact ⟨_, rfl, _, _, _, [], _, [], hW', trodAll_mk1 (shut_bool Try.underlying4 _), (trodAll_cons_mk (Below.trod laidOut (by kernel_rfl) (of_decide_eq_true (by kernel_rfl)) k0 bel lt0) trodAll_mk0), rfl, bel.frame _, fun h => by cases h⟩
theorem over : Rows.decodeNextRow.holds Try.pinned (OpenSpec.ofChange Rows.decodeNextSpec) :=
  OpenClaim.holds_of_wide 4 Try.f4 rfl rfl rfl rfl rfl rfl rfl ⟨rfl, rfl, rfl, rfl, rfl⟩ rfl rfl rfl rfl rfl (by kernel_rfl) Try.func4 (by kernel_rfl)
    (of_decide_eq_true (by kernel_rfl)) (by unfold Func.isWrapper; first | (rw [if_pos (by decide +kernel)]; kernel_rfl) | (rw [if_neg (by decide +kernel)]; exact ⟨rfl, rfl⟩))
    (fun os started H enc _ => lifted os started H enc)
theorem proved : Rows.DecodeNextSaid := over
#print axioms proved
end Go.Proofs.Ytmcdkmakjjlcnaa.decodeNext
namespace Go.Proofs.Ytmcdkmakjjlcnaa
/-- The row, under a short name, for the claim. -/
theorem decodeNext_holds : Rows.DecodeNextSaid := decodeNext.proved
end Go.Proofs.Ytmcdkmakjjlcnaa
