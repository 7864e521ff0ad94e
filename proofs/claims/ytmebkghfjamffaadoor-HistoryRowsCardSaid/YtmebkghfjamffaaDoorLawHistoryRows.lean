/- The row of the statement HistoryRows, out of its Pure and its told function; own work. -/
import Derived.Test.YtmebkghfjamffaaDoorRows
import Derived.Test.YtmebkghfjamffaaDoorHisHistoryRows
import Derived.Test.YtmebkghfjamffaaDoorPureHistoryRows
import Derived.Test.YtmebkghfjamffaaDoorEngLaid
import Derived.Handed
import Derived.LaidMore
import Derived.LaidHandle
import Derived.Test.YtmebkghfjamffaaDoorCards
import Derived.Test.YtmebkghfjamffaaDoorTie
import Derived.SevenTiedAt
namespace Go.Proofs.YtmebkghfjamffaaDoor.historyRows
open Go.ChangeShapes Go.WideShapes Go.ChangeAt Go.RowKit Go.Eng
open Go.ChangeMaps (open_string shut_string)
set_option linter.unusedVariables false
set_option linter.unusedSimpArgs false
theorem own : ownKnob Tryd.prog.godebug = none := by kernel_rfl
theorem laidOut : laidOutB Tryd.prog = true := by kernel_rfl
open Go.Proofs.YtmebkghfjamffaaDoor
def laidL : List (String × DataW Unit) := [("charabanc/latch.devices", Rows.laid_charabanc_latch_devices), ("math/bits.deBruijn32tab", Rows.laid_math_bits_deBruijn32tab), ("math/bits.deBruijn64tab", Rows.laid_math_bits_deBruijn64tab), ("internal/strconv.uint64pow10", Rows.laid_internal_strconv_uint64pow10), ("charabanc/trace.kinds", Rows.laid_charabanc_trace_kinds), ("charabanc/history.names", Rows.laid_charabanc_history_names)]
theorem door_met (os : Os) (args : Array Value) : laidMetH Tryd.prog laidL ((World.doorLaid Tryd.prog 4000 os).forCall (fun _ _ => 0) ⟨#[], args, []⟩).memory :=
  laidMetH_of_parts3 (fuel := 8) (laidMet_of_run' 8 (by kernel_rfl) (by kernel_rfl)) (by kernel_rfl) (by kernel_rfl)
open Go.Proofs.YtmebkghfjamffaaDoor.His
theorem of_laid {W : World} (h : laidMetH Tryd.prog laidL W) : (gl 2 (tab_2.flatMap en_2)).ok W (fun _ => False) ∧ (gl 7 (tab_7.flatMap en_7)).ok W (fun _ => False) ∧ (gl 8 (tab_8.flatMap en_8)).ok W (fun _ => False) ∧ (gl 3 (tab_3.flatMap en_3)).ok W (fun _ => False) ∧ (gl 1 (tab_1.flatMap en_1)).ok W (fun _ => False) ∧ (gl 0 (tab_0.flatMap en_0)).ok W (fun _ => False) := by
  rw [MakeChecks.laidMetH_plain _ _ _ (by kernel_rfl)] at h
  obtain ⟨ps, ⟨g0, t0, cs0, f0, p0, q0, hg0, ht0, hv0, hd0, ⟨g1, t1, cs1, f1, p1, q1, hg1, ht1, hv1, hd1, ⟨g2, t2, cs2, f2, p2, q2, hg2, ht2, hv2, hd2, ⟨g3, t3, cs3, f3, p3, q3, hg3, ht3, hv3, hd3, ⟨g4, t4, cs4, f4, p4, q4, hg4, ht4, hv4, hd4, ⟨g5, t5, cs5, f5, p5, q5, hg5, ht5, hv5, hd5, _, _⟩, _⟩, _⟩, _⟩, _⟩, _⟩, _, _⟩ := h
  obtain rfl := Option.some.inj ((show Tryd.prog.globalNamed "charabanc/latch.devices" = some 2 by kernel_rfl).symm.trans hg0)
  obtain rfl := Option.some.inj ((show (Tryd.prog.globals[2]?).map (·.type) = some 166 by kernel_rfl).symm.trans ht0)
  have hc0 : cs0.toList = tab_2.flatMap en_2 := tab_cells (tab := tab_2) Tryd.underlying166 (Opd.pair Tryd.underlying165 rfl (by kernel_rfl) rfl rfl (Opd.int Tryd.underlying3 (by kernel_rfl)) (Opd.int Tryd.underlying3 (by kernel_rfl))) (by kernel_rfl) hd0 (by kernel_rfl)
  obtain rfl := Option.some.inj ((show Tryd.prog.globalNamed "math/bits.deBruijn32tab" = some 7 by kernel_rfl).symm.trans hg1)
  obtain rfl := Option.some.inj ((show (Tryd.prog.globals[7]?).map (·.type) = some 203 by kernel_rfl).symm.trans ht1)
  have hc1 : cs1.toList = tab_7.flatMap en_7 := tab_cells (tab := tab_7) Tryd.underlying203 (Opd.int Tryd.underlying5 (by kernel_rfl)) (by kernel_rfl) hd1 (by kernel_rfl)
  obtain rfl := Option.some.inj ((show Tryd.prog.globalNamed "math/bits.deBruijn64tab" = some 8 by kernel_rfl).symm.trans hg2)
  obtain rfl := Option.some.inj ((show (Tryd.prog.globals[8]?).map (·.type) = some 204 by kernel_rfl).symm.trans ht2)
  have hc2 : cs2.toList = tab_8.flatMap en_8 := tab_cells (tab := tab_8) Tryd.underlying204 (Opd.int Tryd.underlying5 (by kernel_rfl)) (by kernel_rfl) hd2 (by kernel_rfl)
  obtain rfl := Option.some.inj ((show Tryd.prog.globalNamed "internal/strconv.uint64pow10" = some 3 by kernel_rfl).symm.trans hg3)
  obtain rfl := Option.some.inj ((show (Tryd.prog.globals[3]?).map (·.type) = some 194 by kernel_rfl).symm.trans ht3)
  have hc3 : cs3.toList = tab_3.flatMap en_3 := tab_cells (tab := tab_3) Tryd.underlying194 (Opd.int Tryd.underlying178 (by kernel_rfl)) (by kernel_rfl) hd3 (by kernel_rfl)
  obtain rfl := Option.some.inj ((show Tryd.prog.globalNamed "charabanc/trace.kinds" = some 1 by kernel_rfl).symm.trans hg4)
  obtain rfl := Option.some.inj ((show (Tryd.prog.globals[1]?).map (·.type) = some 137 by kernel_rfl).symm.trans ht4)
  have hc4 : cs4.toList = tab_1.flatMap en_1 := tab_cells (tab := tab_1) Tryd.underlying137 (Opd.str Tryd.underlying9 (by kernel_rfl)) (by kernel_rfl) hd4 (by kernel_rfl)
  obtain rfl := Option.some.inj ((show Tryd.prog.globalNamed "charabanc/history.names" = some 0 by kernel_rfl).symm.trans hg5)
  obtain rfl := Option.some.inj ((show (Tryd.prog.globals[0]?).map (·.type) = some 98 by kernel_rfl).symm.trans ht5)
  have hc5 : cs5.toList = tab_0.flatMap en_0 := tab_cells (tab := tab_0) Tryd.underlying98 (Opd.str Tryd.underlying9 (by kernel_rfl)) (by kernel_rfl) hd5 (by kernel_rfl)
  exact ⟨gl_of_var hg0 hv0 hc0 (by kernel_rfl), gl_of_var hg1 hv1 hc1 (by kernel_rfl), gl_of_var hg2 hv2 hc2 (by kernel_rfl), gl_of_var hg3 hv3 hc3 (by kernel_rfl), gl_of_var hg4 hv4 hc4 (by kernel_rfl), gl_of_var hg5 hv5 hc5 (by kernel_rfl)⟩
set_option maxRecDepth 100000 in
theorem lifted (os : Os) (started : os.Started) (H : Type) (enc : TypeId × Value → H) :
    ReturnsInHanded {} Tryd.checked os 5 .any (fun w args => (Rows.historyRowsSpec.pre enc Tryd.prog Tryd.f5 Rows.historyRowsRow.domain false w args ∧ laidMetH Tryd.prog laidL w) ∧ sizedMet enc Tryd.prog Tryd.f5 (OpenSpec.ofChange Rows.historyRowsSpec) false w args) (Rows.historyRowsSpec.post enc Tryd.prog Tryd.f5 false true false false) := by
  refine returnsInHanded_of_change_and (C := Tryd.checked) (X := (fun w _ => laidMetH Tryd.prog laidL w)) (fun _ _ _ hh h => h.of_heap hh) own started (by kernel_rfl) Tryd.func5
    (ChangeSpec.witness_shaped (enc := enc) (C := Tryd.checked) (os := os) (X := (fun w _ => laidMetH Tryd.prog laidL w)) false (World.doorLaid Tryd.prog 4000 os) #[.slice none 0 0] 8 rfl (World.shaped_of_RefB (by kernel_rfl) (by kernel_rfl)) (by kernel_rfl) (by kernel_rfl) (by kernel_rfl) (door_met os _)) ?_
  intro W base args ds gs before hval0 hW hcnd hsz0 hL _
  have hsz : (DataW.weightsEach Tryd.prog (Tryd.f5.params.toList ++ Rows.historyRowsSpec.plain.varTypes Tryd.prog) (ds ++ gs)).all (· ≤ reachBytes) = true := hsz0
  have hval : ∀ (j : Nat) t v, Tryd.f5.params[j]? = some t → args[j]? = some v → Value.okWide Tryd.prog W .any base t v := hval0
  have hW' := hW
  obtain ⟨p, q, hA0, hV, rfl, hfz, hnd⟩ := hW
  have hA : DataW.TrodAll enc Tryd.prog W 0 (fun _ => true) true Tryd.f5.params.toList args.toList ds p := hA0
  rw [Tryd.params5] at hA hval hsz
  obtain ⟨v0, vs0, d0, ds0, p0, q0, hargs, rfl, rfl, h0, r0⟩ := trodAll_cons hA
  obtain ⟨rfl, rfl, rfl⟩ := trodAll_nil r0
  obtain rfl : args = #[v0] := by cases args; simp_all
  obtain ⟨rfl, rfl⟩ := trodVars_none hV
  have k0 := h0
  have lt0 := Trod_lt h0
  obtain ⟨A0, len0, cap0, rfl⟩ := okWide_slice Tryd.underlying26 (hval 0 26 v0 rfl rfl)
  obtain ⟨a0, rfl, hs0, w0⟩ := Opn.getSl (Opn.slice (B := 48) Tryd.underlying26 (by kernel_rfl) (by kernel_rfl) (by decide) (Opn.struct Tryd.underlying54 (by kernel_rfl) (OpnL.cons (o := 0) (o2 := 1) (by kernel_rfl) (Opn.int Tryd.underlying3 (by kernel_rfl)) (by kernel_rfl) (OpnL.cons (o := 1) (o2 := 2) (by kernel_rfl) (Opn.int Tryd.underlying3 (by kernel_rfl)) (by kernel_rfl) (OpnL.cons (o := 2) (o2 := 3) (by kernel_rfl) (Opn.int Tryd.underlying3 (by kernel_rfl)) (by kernel_rfl) (OpnL.cons (o := 3) (o2 := 4) (by kernel_rfl) (Opn.int Tryd.underlying52 (by kernel_rfl)) (by kernel_rfl) (OpnL.cons (o := 4) (o2 := 5) (by kernel_rfl) (Opn.int Tryd.underlying3 (by kernel_rfl)) (by kernel_rfl) (OpnL.one (o := 5) (by kernel_rfl) (Opn.int Tryd.underlying5 (by kernel_rfl)))))))))) hsz 0 rfl rfl h0
  clear hA0 hval0 hsz0 hsz
  obtain ⟨K, hK⟩ := Pure.HistoryRows a0 w0
  refine (Go.Proofs.YtmebkghfjamffaaDoor.His.charabanclaw29_HistoryRows_5_ok K (fun _ => False) W A0 cap0 a0 (fun _ hf => hf.elim) hs0 (of_laid hL).2.2.2.2.2 (of_laid hL).2.2.2.2.1 (of_laid hL).1 (of_laid hL).2.2.2.1 (of_laid hL).2.1 (of_laid hL).2.2.1 hK).mono fun e W' ⟨he, bel⟩ => ?_
  subst he
  exact ⟨_, rfl, _, _, _, [], _, [], hW', trodAll_mk1 (shut_bool Tryd.underlying4 _), (trodAll_cons_mk (Below.trod laidOut (by kernel_rfl) (of_decide_eq_true (by kernel_rfl)) k0 bel lt0) trodAll_mk0), rfl, bel.frame _, fun h => by cases h⟩
theorem over : Rows.historyRowsRow.holds Tryd.pinned (OpenSpec.ofChange Rows.historyRowsSpec) :=
  OpenClaim.holds_of_wide 5 Tryd.f5 rfl rfl rfl rfl rfl rfl rfl ⟨rfl, rfl, rfl, rfl, rfl⟩ rfl rfl rfl rfl rfl (by kernel_rfl) Tryd.func5 (by kernel_rfl)
    (of_decide_eq_true (by kernel_rfl)) (by unfold Func.isWrapper; first | (rw [if_pos (by decide +kernel)]; kernel_rfl) | (rw [if_neg (by decide +kernel)]; exact ⟨rfl, rfl⟩))
    (fun os started H enc _ => lifted os started H enc)
theorem proved : Rows.HistoryRowsCardSaid :=
  Claim7.holds_tied_plain_at .later [] [.data, .data, .data, .data, .data, .data] true (true, "432ed3f955d8d759fc0c06d2bcf8a3bd3442e07d2f623ac1e3fa165ba7fd7335") false
    over (fun _ h => by cases h) (by kernel_rfl) (fun _ h => by cases h) historyRows_row_tie rfl ⟨rfl, rfl⟩ (by kernel_rfl) rfl
    (fun f fn hf hfn => by
      obtain rfl : f = 5 := Option.some.inj ((show Tryd.prog.funcNamed "charabanc/charabanclaw29.HistoryRows" = some 5 by kernel_rfl).symm.trans hf) |>.symm
      obtain rfl : fn = Tryd.f5 := (Option.some.inj (Tryd.func5.symm.trans hfn)).symm
      exact ⟨by kernel_rfl, fun j t ht => by
        rw [Tryd.params5] at ht
        have hm : t ∈ ([26] : List Nat) := by simpa using Array.mem_of_getElem? ht
        have ha : ([26] : List Nat).all (fun t => !(Tryd.prog.wantsStandIn t)) = true := by kernel_rfl
        exact (show Tryd.prog.wantsStandIn t = false by simpa using List.all_eq_true.1 ha t hm)⟩)
    (by kernel_rfl)
#print axioms proved
end Go.Proofs.YtmebkghfjamffaaDoor.historyRows
namespace Go.Proofs.YtmebkghfjamffaaDoor
/-- The row, under a short name, for the claim. -/
theorem historyRows_holds : Rows.HistoryRowsCardSaid := historyRows.proved
end Go.Proofs.YtmebkghfjamffaaDoor
