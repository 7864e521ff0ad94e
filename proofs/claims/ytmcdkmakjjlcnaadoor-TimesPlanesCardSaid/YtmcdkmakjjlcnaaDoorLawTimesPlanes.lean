/- The row of the statement TimesPlanes, out of its Pure and its told function; own work. -/
import Derived.Test.YtmcdkmakjjlcnaaDoorRows
import Derived.Test.YtmcdkmakjjlcnaaDoorTimTimesPlanes
import Derived.Test.YtmcdkmakjjlcnaaDoorPureTimesPlanes
import Derived.Test.YtmcdkmakjjlcnaaDoorEngLaid
import Derived.Handed
import Derived.LaidMore
import Derived.LaidHandle
import Derived.Test.YtmcdkmakjjlcnaaDoorCards
import Derived.Test.YtmcdkmakjjlcnaaDoorTie
import Derived.SevenTiedAt
namespace Go.Proofs.YtmcdkmakjjlcnaaDoor.timesPlanes
open Go.ChangeShapes Go.WideShapes Go.ChangeAt Go.RowKit Go.Eng
open Go.ChangeMaps (open_string shut_string)
set_option linter.unusedVariables false
set_option linter.unusedSimpArgs false
theorem own : ownKnob Tryd.prog.godebug = none := by kernel_rfl
theorem laidOut : laidOutB Tryd.prog = true := by kernel_rfl
open Go.Proofs.YtmcdkmakjjlcnaaDoor
def laidL : List (String × DataW Unit) := [("charabanc/times.plain", Rows.laid_charabanc_times_plain), ("charabanc/times.far", Rows.laid_charabanc_times_far)]
theorem door_met (os : Os) (args : Array Value) : laidMetH Tryd.prog laidL ((World.doorLaid Tryd.prog 4000 os).forCall (fun _ _ => 0) ⟨#[], args, []⟩).memory :=
  laidMetH_of_parts3 (fuel := 8) (laidMet_of_run' 8 (by kernel_rfl) (by kernel_rfl)) (by kernel_rfl) (by kernel_rfl)
open Go.Proofs.YtmcdkmakjjlcnaaDoor.Tim
theorem of_laid {W : World} (h : laidMetH Tryd.prog laidL W) : (gl 0 (tab_0.flatMap en_0)).ok W (fun _ => False) ∧ (gl 1 (tab_1.flatMap en_1)).ok W (fun _ => False) := by
  rw [MakeChecks.laidMetH_plain _ _ _ (by kernel_rfl)] at h
  obtain ⟨ps, ⟨g0, t0, cs0, f0, p0, q0, hg0, ht0, hv0, hd0, ⟨g1, t1, cs1, f1, p1, q1, hg1, ht1, hv1, hd1, _, _⟩, _⟩, _, _⟩ := h
  obtain rfl := Option.some.inj ((show Tryd.prog.globalNamed "charabanc/times.plain" = some 0 by kernel_rfl).symm.trans hg0)
  obtain rfl := Option.some.inj ((show (Tryd.prog.globals[0]?).map (·.type) = some 31 by kernel_rfl).symm.trans ht0)
  have hc0 : cs0.toList = tab_0.flatMap en_0 := tab_cells (tab := tab_0) Tryd.underlying31 (Opd.int Tryd.underlying3 (by kernel_rfl)) (by kernel_rfl) hd0 (by kernel_rfl)
  obtain rfl := Option.some.inj ((show Tryd.prog.globalNamed "charabanc/times.far" = some 1 by kernel_rfl).symm.trans hg1)
  obtain rfl := Option.some.inj ((show (Tryd.prog.globals[1]?).map (·.type) = some 51 by kernel_rfl).symm.trans ht1)
  have hc1 : cs1.toList = tab_1.flatMap en_1 := tab_cells (tab := tab_1) Tryd.underlying51 (Opd.int Tryd.underlying3 (by kernel_rfl)) (by kernel_rfl) hd1 (by kernel_rfl)
  exact ⟨gl_of_var hg0 hv0 hc0 (by kernel_rfl), gl_of_var hg1 hv1 hc1 (by kernel_rfl)⟩
set_option maxRecDepth 100000 in
theorem lifted (os : Os) (started : os.Started) (H : Type) (enc : TypeId × Value → H) :
    ReturnsInHanded {} Tryd.checked os 6 .any (fun w args => (Rows.timesPlanesSpec.pre enc Tryd.prog Tryd.f6 Rows.timesPlanesRow.domain false w args ∧ laidMetH Tryd.prog laidL w) ∧ sizedMet enc Tryd.prog Tryd.f6 (OpenSpec.ofChange Rows.timesPlanesSpec) false w args) (Rows.timesPlanesSpec.post enc Tryd.prog Tryd.f6 false true false false) := by
  refine returnsInHanded_of_change_and (C := Tryd.checked) (X := (fun w _ => laidMetH Tryd.prog laidL w)) (fun _ _ _ hh h => h.of_heap hh) own started (by kernel_rfl) Tryd.func6
    (ChangeSpec.witness_shaped (enc := enc) (C := Tryd.checked) (os := os) (X := (fun w _ => laidMetH Tryd.prog laidL w)) false (World.doorLaid Tryd.prog 4000 os) #[.int .u8 0, .bool false] 8 rfl (World.shaped_of_RefB (by kernel_rfl) (by kernel_rfl)) (by kernel_rfl) (by kernel_rfl) (by kernel_rfl) (door_met os _)) ?_
  intro W base args ds gs before hval0 hW hcnd hsz0 hL _
  have hsz : (DataW.weightsEach Tryd.prog (Tryd.f6.params.toList ++ Rows.timesPlanesSpec.plain.varTypes Tryd.prog) (ds ++ gs)).all (· ≤ reachBytes) = true := hsz0
  have hval : ∀ (j : Nat) t v, Tryd.f6.params[j]? = some t → args[j]? = some v → Value.okWide Tryd.prog W .any base t v := hval0
  have hW' := hW
  obtain ⟨p, q, hA0, hV, rfl, hfz, hnd⟩ := hW
  have hA : DataW.TrodAll enc Tryd.prog W 0 (fun _ => true) true Tryd.f6.params.toList args.toList ds p := hA0
  rw [Tryd.params6] at hA hval hsz
  obtain ⟨v0, vs0, d0, ds0, p0, q0, hargs, rfl, rfl, h0, r0⟩ := trodAll_cons hA
  obtain ⟨v1, vs1, d1, ds1, p1, q1, rfl, rfl, rfl, h1, r1⟩ := trodAll_cons r0
  obtain ⟨rfl, rfl, rfl⟩ := trodAll_nil r1
  obtain rfl : args = #[v0, v1] := by cases args; simp_all
  obtain ⟨rfl, rfl⟩ := trodVars_none hV
  have k0 := h0
  have lt0 := Trod_lt h0
  obtain ⟨a0, rfl, rfl, rfl, w0⟩ := open_int Tryd.underlying5 (hval 0 5 v0 rfl rfl) h0
  have k1 := h1
  have lt1 := Trod_lt h1
  obtain ⟨a1, rfl, rfl, rfl⟩ := open_bool Tryd.underlying4 (hval 1 4 v1 rfl rfl) h1
  clear hA0 hval0 hsz0 hsz
  obtain ⟨K, hK⟩ := Pure.TimesPlanes a0 a1 w0
  refine (Go.Proofs.YtmcdkmakjjlcnaaDoor.Tim.charabanclaw10_TimesPlanes_6_ok K (fun _ => False) W a0 a1 (fun _ hf => hf.elim) (of_laid hL).1 (of_laid hL).2 hK).mono fun e W' ⟨he, bel⟩ => ?_
  subst he
  exact ⟨_, rfl, _, _, _, [], _, [], hW', trodAll_mk1 (shut_bool Tryd.underlying4 _), (trodAll_cons_mk (Below.trod laidOut (by kernel_rfl) (of_decide_eq_true (by kernel_rfl)) k0 bel lt0) (trodAll_cons_mk (Below.trod laidOut (by kernel_rfl) (of_decide_eq_true (by kernel_rfl)) k1 bel lt1) trodAll_mk0)), rfl, bel.frame _, fun h => by cases h⟩
theorem over : Rows.timesPlanesRow.holds Tryd.pinned (OpenSpec.ofChange Rows.timesPlanesSpec) :=
  OpenClaim.holds_of_wide 6 Tryd.f6 rfl rfl rfl rfl rfl rfl rfl ⟨rfl, rfl, rfl, rfl, rfl⟩ rfl rfl rfl rfl rfl (by kernel_rfl) Tryd.func6 (by kernel_rfl)
    (of_decide_eq_true (by kernel_rfl)) (by unfold Func.isWrapper; first | (rw [if_pos (by decide +kernel)]; kernel_rfl) | (rw [if_neg (by decide +kernel)]; exact ⟨rfl, rfl⟩))
    (fun os started H enc _ => lifted os started H enc)
theorem proved : Rows.TimesPlanesCardSaid :=
  Claim7.holds_tied_plain_at .later [] [.data, .data] true (true, "5807e4eb7a5b25cefe4b96da9aff810b9edaa417fce66418b3e347698feabbe2") false
    over (fun _ h => by cases h) (by kernel_rfl) (fun _ h => by cases h) timesPlanes_row_tie rfl ⟨rfl, rfl⟩ (by kernel_rfl) rfl
    (fun f fn hf hfn => by
      obtain rfl : f = 6 := Option.some.inj ((show Tryd.prog.funcNamed "charabanc/charabanclaw10.TimesPlanes" = some 6 by kernel_rfl).symm.trans hf) |>.symm
      obtain rfl : fn = Tryd.f6 := (Option.some.inj (Tryd.func6.symm.trans hfn)).symm
      exact ⟨by kernel_rfl, fun j t ht => by
        rw [Tryd.params6] at ht
        have hm : t ∈ ([5, 4] : List Nat) := by simpa using Array.mem_of_getElem? ht
        have ha : ([5, 4] : List Nat).all (fun t => !(Tryd.prog.wantsStandIn t)) = true := by kernel_rfl
        exact (show Tryd.prog.wantsStandIn t = false by simpa using List.all_eq_true.1 ha t hm)⟩)
    (by kernel_rfl)
#print axioms proved
end Go.Proofs.YtmcdkmakjjlcnaaDoor.timesPlanes
namespace Go.Proofs.YtmcdkmakjjlcnaaDoor
/-- The row, under a short name, for the claim. -/
theorem timesPlanes_holds : Rows.TimesPlanesCardSaid := timesPlanes.proved
end Go.Proofs.YtmcdkmakjjlcnaaDoor
