/- The row of the statement LatchOne, out of its Pure and its told function; own work. -/
import Derived.Test.YtngcadmhnbpgjaaDoorRows
import Derived.Test.YtngcadmhnbpgjaaDoorLatchLatchOne
import Derived.Test.YtngcadmhnbpgjaaDoorPureLatchOne
import Derived.Test.YtngcadmhnbpgjaaDoorEngLaid
import Derived.Handed
import Derived.LaidMore
import Derived.LaidHandle
import Derived.Test.YtngcadmhnbpgjaaDoorCards
import Derived.Test.YtngcadmhnbpgjaaDoorTie
import Derived.SevenTiedAt
namespace Go.Proofs.YtngcadmhnbpgjaaDoor.latchOne
open Go.ChangeShapes Go.WideShapes Go.ChangeAt Go.RowKit Go.Eng
open Go.ChangeMaps (open_string shut_string)
set_option linter.unusedVariables false
set_option linter.unusedSimpArgs false
theorem own : ownKnob Tryd.prog.godebug = none := by kernel_rfl
theorem laidOut : laidOutB Tryd.prog = true := by kernel_rfl
open Go.Proofs.YtngcadmhnbpgjaaDoor
def laidL : List (String × DataW Unit) := [("charabanc/latch.devices", Rows.laid_charabanc_latch_devices)]
theorem door_met (os : Os) (args : Array Value) : laidMetH Tryd.prog laidL ((World.doorLaid Tryd.prog 4000 os).forCall (fun _ _ => 0) ⟨#[], args, []⟩).memory :=
  laidMetH_of_parts3 (fuel := 8) (laidMet_of_run' 8 (by kernel_rfl) (by kernel_rfl)) (by kernel_rfl) (by kernel_rfl)
open Go.Proofs.YtngcadmhnbpgjaaDoor.Latch
theorem of_laid {W : World} (h : laidMetH Tryd.prog laidL W) : (cel 0 0 (tab_0.flatMap en_0)).ok W (fun _ => False) := by
  rw [MakeChecks.laidMetH_plain _ _ _ (by kernel_rfl)] at h
  obtain ⟨ps, ⟨g0, t0, cs0, f0, p0, q0, hg0, ht0, hv0, hd0, _, _⟩, _, _⟩ := h
  obtain rfl := Option.some.inj ((show Tryd.prog.globalNamed "charabanc/latch.devices" = some 0 by kernel_rfl).symm.trans hg0)
  obtain rfl := Option.some.inj ((show (Tryd.prog.globals[0]?).map (·.type) = some 48 by kernel_rfl).symm.trans ht0)
  have hc0 : cs0.toList = tab_0.flatMap en_0 := tab_cells (tab := tab_0) Tryd.underlying48 (Opd.pair Tryd.underlying47 rfl (by kernel_rfl) rfl rfl (Opd.int Tryd.underlying3 (by kernel_rfl)) (Opd.int Tryd.underlying3 (by kernel_rfl))) (by kernel_rfl) hd0 (by kernel_rfl)
  exact cel_of_var hg0 hv0 hc0 (by decide)
set_option maxRecDepth 100000 in
theorem lifted (os : Os) (started : os.Started) (H : Type) (enc : TypeId × Value → H) :
    ReturnsInHanded {} Tryd.checked os 5 .any (fun w args => (Rows.latchOneSpec.pre enc Tryd.prog Tryd.f5 Rows.latchOneRow.domain false w args ∧ laidMetH Tryd.prog laidL w) ∧ sizedMet enc Tryd.prog Tryd.f5 (OpenSpec.ofChange Rows.latchOneSpec) false w args) (Rows.latchOneSpec.post enc Tryd.prog Tryd.f5 false true false false) := by
  refine returnsInHanded_of_change_and (C := Tryd.checked) (X := (fun w _ => laidMetH Tryd.prog laidL w)) (fun _ _ _ hh h => h.of_heap hh) own started (by kernel_rfl) Tryd.func5
    (ChangeSpec.witness_shaped (enc := enc) (C := Tryd.checked) (os := os) (X := (fun w _ => laidMetH Tryd.prog laidL w)) false (World.doorLaid Tryd.prog 4000 os) #[.slice none 0 0] 8 rfl (World.shaped_of_RefB (by kernel_rfl) (by kernel_rfl)) (by kernel_rfl) (by kernel_rfl) (by kernel_rfl) (door_met os _)) ?_
  intro W base args ds gs before hval0 hW hcnd hsz0 hL _
  have hsz : (DataW.weightsEach Tryd.prog (Tryd.f5.params.toList ++ Rows.latchOneSpec.plain.varTypes Tryd.prog) (ds ++ gs)).all (· ≤ reachBytes) = true := hsz0
  have hval : ∀ (j : Nat) t v, Tryd.f5.params[j]? = some t → args[j]? = some v → Value.okWide Tryd.prog W .any base t v := hval0
  have hW' := hW
  obtain ⟨p, q, hA0, hV, rfl, hfz, hnd⟩ := hW
  have hA : DataW.TrodAll enc Tryd.prog W 0 (fun _ => true) true Tryd.f5.params.toList args.toList ds p := hA0
  rw [Tryd.params5] at hA hval hsz
  obtain ⟨v0, vs0, d0, ds0, p0, q0, hargs, rfl, rfl, h0, r0⟩ := trodAll_cons hA
  obtain ⟨rfl, rfl, rfl⟩ := trodAll_nil r0
  obtain rfl : args = #[v0] := by cases args; simp_all
  obtain ⟨rfl, rfl⟩ := trodVars_none hV
  have k0 := h0
  have lt0 := Trod_lt h0
  obtain ⟨A0, len0, cap0, rfl⟩ := okWide_slice Tryd.underlying30 (hval 0 30 v0 rfl rfl)
  obtain ⟨a0, rfl, hs0, w0⟩ := Opn.getSl (Opn.slice (B := 8) Tryd.underlying30 (by kernel_rfl) (by kernel_rfl) (by decide) (Opn.int Tryd.underlying3 (by kernel_rfl))) hsz 0 rfl rfl h0
  clear hA0 hval0 hsz0 hsz
  obtain ⟨K, hK⟩ := Pure.LatchOne a0 w0
  refine (Go.Proofs.YtngcadmhnbpgjaaDoor.Latch.charabanclaw20_LatchOne_5_ok K (fun _ => False) W A0 cap0 a0 (fun _ hf => hf.elim) hs0 (of_laid hL) hK).mono fun e W' ⟨he, bel⟩ => ?_
  subst he
  exact ⟨_, rfl, _, _, _, [], _, [], hW', trodAll_mk1 (shut_bool Tryd.underlying4 _), (trodAll_cons_mk (Below.trod laidOut (by kernel_rfl) (of_decide_eq_true (by kernel_rfl)) k0 bel lt0) trodAll_mk0), rfl, bel.frame _, fun h => by cases h⟩
theorem over : Rows.latchOneRow.holds Tryd.pinned (OpenSpec.ofChange Rows.latchOneSpec) :=
  OpenClaim.holds_of_wide 5 Tryd.f5 rfl rfl rfl rfl rfl rfl rfl ⟨rfl, rfl, rfl, rfl, rfl⟩ rfl rfl rfl rfl rfl (by kernel_rfl) Tryd.func5 (by kernel_rfl)
    (of_decide_eq_true (by kernel_rfl)) (by unfold Func.isWrapper; first | (rw [if_pos (by decide +kernel)]; kernel_rfl) | (rw [if_neg (by decide +kernel)]; exact ⟨rfl, rfl⟩))
    (fun os started H enc _ => lifted os started H enc)
theorem proved : Rows.LatchOneCardSaid :=
  Claim7.holds_tied_plain_at .later [] [.data] true (true, "d435f1380823279e18f8eedb7e62cd48d318672f3840b4f37654be88e62dae59") false
    over (fun _ h => by cases h) (by kernel_rfl) (fun _ h => by cases h) latchOne_row_tie rfl ⟨rfl, rfl⟩ (by kernel_rfl) rfl
    (fun f fn hf hfn => by
      obtain rfl : f = 5 := Option.some.inj ((show Tryd.prog.funcNamed "charabanc/charabanclaw20.LatchOne" = some 5 by kernel_rfl).symm.trans hf) |>.symm
      obtain rfl : fn = Tryd.f5 := (Option.some.inj (Tryd.func5.symm.trans hfn)).symm
      exact ⟨by kernel_rfl, fun j t ht => by
        rw [Tryd.params5] at ht
        have hm : t ∈ ([30] : List Nat) := by simpa using Array.mem_of_getElem? ht
        have ha : ([30] : List Nat).all (fun t => !(Tryd.prog.wantsStandIn t)) = true := by kernel_rfl
        exact (show Tryd.prog.wantsStandIn t = false by simpa using List.all_eq_true.1 ha t hm)⟩)
    (by kernel_rfl)
#print axioms proved
end Go.Proofs.YtngcadmhnbpgjaaDoor.latchOne
namespace Go.Proofs.YtngcadmhnbpgjaaDoor
/-- The row, under a short name, for the claim. -/
theorem latchOne_holds : Rows.LatchOneCardSaid := latchOne.proved
end Go.Proofs.YtngcadmhnbpgjaaDoor
