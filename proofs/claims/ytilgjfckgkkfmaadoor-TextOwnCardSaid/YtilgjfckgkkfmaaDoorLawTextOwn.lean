/- The row of the statement TextOwn, out of its Pure and its told function; own work. -/
import Derived.Test.YtilgjfckgkkfmaaDoorRows
import Derived.Test.YtilgjfckgkkfmaaDoorTexTextOwn
import Derived.Test.YtilgjfckgkkfmaaDoorPureTextOwn
import Derived.Test.YtilgjfckgkkfmaaDoorEngLaid
import Derived.Handed
import Derived.LaidMore
import Derived.LaidHandle
import Derived.Test.YtilgjfckgkkfmaaDoorCards
import Derived.Test.YtilgjfckgkkfmaaDoorTie
import Derived.SevenTiedAt
namespace Go.Proofs.YtilgjfckgkkfmaaDoor.textOwn
open Go.ChangeShapes Go.WideShapes Go.ChangeAt Go.RowKit Go.Eng
open Go.ChangeMaps (open_string shut_string)
set_option linter.unusedVariables false
set_option linter.unusedSimpArgs false
theorem own : ownKnob Tryd.prog.godebug = none := by kernel_rfl
theorem laidOut : laidOutB Tryd.prog = true := by kernel_rfl
open Go.Proofs.YtilgjfckgkkfmaaDoor
def laidL : List (String × DataW Unit) := [("math/bits.deBruijn32tab", Rows.laid_math_bits_deBruijn32tab), ("math/bits.deBruijn64tab", Rows.laid_math_bits_deBruijn64tab), ("internal/strconv.uint64pow10", Rows.laid_internal_strconv_uint64pow10), ("charabanc/text.regs", Rows.laid_charabanc_text_regs), ("charabanc/text.pairs", Rows.laid_charabanc_text_pairs), ("charabanc/text.conds", Rows.laid_charabanc_text_conds), ("charabanc/text.sums", Rows.laid_charabanc_text_sums), ("charabanc/text.shifts", Rows.laid_charabanc_text_shifts), ("charabanc/text.asks", Rows.laid_charabanc_text_asks), ("charabanc/text.turns", Rows.laid_charabanc_text_turns), ("charabanc/text.odd", Rows.laid_charabanc_text_odd), ("charabanc/text.blocks", Rows.laid_charabanc_text_blocks), ("charabanc/text.ways", Rows.laid_charabanc_text_ways), ("charabanc/text.modes", Rows.laid_charabanc_text_modes)]
theorem door_met (os : Os) (args : Array Value) : laidMetH Tryd.prog laidL ((World.doorLaid Tryd.prog 4000 os).forCall (fun _ _ => 0) ⟨#[], args, []⟩).memory :=
  laidMetH_of_parts3 (fuel := 8) (laidMet_of_run' 8 (by kernel_rfl) (by kernel_rfl)) (by kernel_rfl) (by kernel_rfl)
open Go.Proofs.YtilgjfckgkkfmaaDoor.Tex
theorem of_laid {W : World} (h : laidMetH Tryd.prog laidL W) : (gl 15 (tab_15.flatMap en_15)).ok W (fun _ => False) ∧ (gl 16 (tab_16.flatMap en_16)).ok W (fun _ => False) ∧ (gl 12 (tab_12.flatMap en_12)).ok W (fun _ => False) ∧ (gl 5 (tab_5.flatMap en_5)).ok W (fun _ => False) ∧ (gl 6 (tab_6.flatMap en_6)).ok W (fun _ => False) ∧ (gl 0 (tab_0.flatMap en_0)).ok W (fun _ => False) ∧ (gl 2 (tab_2.flatMap en_2)).ok W (fun _ => False) ∧ (gl 9 (tab_9.flatMap en_9)).ok W (fun _ => False) ∧ (gl 10 (tab_10.flatMap en_10)).ok W (fun _ => False) ∧ (gl 1 (tab_1.flatMap en_1)).ok W (fun _ => False) ∧ (gl 8 (tab_8.flatMap en_8)).ok W (fun _ => False) ∧ (gl 4 (tab_4.flatMap en_4)).ok W (fun _ => False) ∧ (gl 3 (tab_3.flatMap en_3)).ok W (fun _ => False) ∧ (gl 7 (tab_7.flatMap en_7)).ok W (fun _ => False) := by
  rw [MakeChecks.laidMetH_plain _ _ _ (by kernel_rfl)] at h
  obtain ⟨ps, ⟨g0, t0, cs0, f0, p0, q0, hg0, ht0, hv0, hd0, ⟨g1, t1, cs1, f1, p1, q1, hg1, ht1, hv1, hd1, ⟨g2, t2, cs2, f2, p2, q2, hg2, ht2, hv2, hd2, ⟨g3, t3, cs3, f3, p3, q3, hg3, ht3, hv3, hd3, ⟨g4, t4, cs4, f4, p4, q4, hg4, ht4, hv4, hd4, ⟨g5, t5, cs5, f5, p5, q5, hg5, ht5, hv5, hd5, ⟨g6, t6, cs6, f6, p6, q6, hg6, ht6, hv6, hd6, ⟨g7, t7, cs7, f7, p7, q7, hg7, ht7, hv7, hd7, ⟨g8, t8, cs8, f8, p8, q8, hg8, ht8, hv8, hd8, ⟨g9, t9, cs9, f9, p9, q9, hg9, ht9, hv9, hd9, ⟨g10, t10, cs10, f10, p10, q10, hg10, ht10, hv10, hd10, ⟨g11, t11, cs11, f11, p11, q11, hg11, ht11, hv11, hd11, ⟨g12, t12, cs12, f12, p12, q12, hg12, ht12, hv12, hd12, ⟨g13, t13, cs13, f13, p13, q13, hg13, ht13, hv13, hd13, _, _⟩, _⟩, _⟩, _⟩, _⟩, _⟩, _⟩, _⟩, _⟩, _⟩, _⟩, _⟩, _⟩, _⟩, _, _⟩ := h
  obtain rfl := Option.some.inj ((show Tryd.prog.globalNamed "math/bits.deBruijn32tab" = some 15 by kernel_rfl).symm.trans hg0)
  obtain rfl := Option.some.inj ((show (Tryd.prog.globals[15]?).map (·.type) = some 205 by kernel_rfl).symm.trans ht0)
  have hc0 : cs0.toList = tab_15.flatMap en_15 := tab_cells (tab := tab_15) Tryd.underlying205 (Opd.int Tryd.underlying5 (by kernel_rfl)) (by kernel_rfl) hd0 (by kernel_rfl)
  obtain rfl := Option.some.inj ((show Tryd.prog.globalNamed "math/bits.deBruijn64tab" = some 16 by kernel_rfl).symm.trans hg1)
  obtain rfl := Option.some.inj ((show (Tryd.prog.globals[16]?).map (·.type) = some 206 by kernel_rfl).symm.trans ht1)
  have hc1 : cs1.toList = tab_16.flatMap en_16 := tab_cells (tab := tab_16) Tryd.underlying206 (Opd.int Tryd.underlying5 (by kernel_rfl)) (by kernel_rfl) hd1 (by kernel_rfl)
  obtain rfl := Option.some.inj ((show Tryd.prog.globalNamed "internal/strconv.uint64pow10" = some 12 by kernel_rfl).symm.trans hg2)
  obtain rfl := Option.some.inj ((show (Tryd.prog.globals[12]?).map (·.type) = some 177 by kernel_rfl).symm.trans ht2)
  have hc2 : cs2.toList = tab_12.flatMap en_12 := tab_cells (tab := tab_12) Tryd.underlying177 (Opd.int Tryd.underlying152 (by kernel_rfl)) (by kernel_rfl) hd2 (by kernel_rfl)
  obtain rfl := Option.some.inj ((show Tryd.prog.globalNamed "charabanc/text.regs" = some 5 by kernel_rfl).symm.trans hg3)
  obtain rfl := Option.some.inj ((show (Tryd.prog.globals[5]?).map (·.type) = some 122 by kernel_rfl).symm.trans ht3)
  have hc3 : cs3.toList = tab_5.flatMap en_5 := tab_cells (tab := tab_5) Tryd.underlying122 (Opd.str Tryd.underlying9 (by kernel_rfl)) (by kernel_rfl) hd3 (by kernel_rfl)
  obtain rfl := Option.some.inj ((show Tryd.prog.globalNamed "charabanc/text.pairs" = some 6 by kernel_rfl).symm.trans hg4)
  obtain rfl := Option.some.inj ((show (Tryd.prog.globals[6]?).map (·.type) = some 126 by kernel_rfl).symm.trans ht4)
  have hc4 : cs4.toList = tab_6.flatMap en_6 := tab_cells (tab := tab_6) Tryd.underlying126 (Opd.str Tryd.underlying9 (by kernel_rfl)) (by kernel_rfl) hd4 (by kernel_rfl)
  obtain rfl := Option.some.inj ((show Tryd.prog.globalNamed "charabanc/text.conds" = some 0 by kernel_rfl).symm.trans hg5)
  obtain rfl := Option.some.inj ((show (Tryd.prog.globals[0]?).map (·.type) = some 122 by kernel_rfl).symm.trans ht5)
  have hc5 : cs5.toList = tab_0.flatMap en_0 := tab_cells (tab := tab_0) Tryd.underlying122 (Opd.str Tryd.underlying9 (by kernel_rfl)) (by kernel_rfl) hd5 (by kernel_rfl)
  obtain rfl := Option.some.inj ((show Tryd.prog.globalNamed "charabanc/text.sums" = some 2 by kernel_rfl).symm.trans hg6)
  obtain rfl := Option.some.inj ((show (Tryd.prog.globals[2]?).map (·.type) = some 122 by kernel_rfl).symm.trans ht6)
  have hc6 : cs6.toList = tab_2.flatMap en_2 := tab_cells (tab := tab_2) Tryd.underlying122 (Opd.str Tryd.underlying9 (by kernel_rfl)) (by kernel_rfl) hd6 (by kernel_rfl)
  obtain rfl := Option.some.inj ((show Tryd.prog.globalNamed "charabanc/text.shifts" = some 9 by kernel_rfl).symm.trans hg7)
  obtain rfl := Option.some.inj ((show (Tryd.prog.globals[9]?).map (·.type) = some 122 by kernel_rfl).symm.trans ht7)
  have hc7 : cs7.toList = tab_9.flatMap en_9 := tab_cells (tab := tab_9) Tryd.underlying122 (Opd.str Tryd.underlying9 (by kernel_rfl)) (by kernel_rfl) hd7 (by kernel_rfl)
  obtain rfl := Option.some.inj ((show Tryd.prog.globalNamed "charabanc/text.asks" = some 10 by kernel_rfl).symm.trans hg8)
  obtain rfl := Option.some.inj ((show (Tryd.prog.globals[10]?).map (·.type) = some 123 by kernel_rfl).symm.trans ht8)
  have hc8 : cs8.toList = tab_10.flatMap en_10 := tab_cells (tab := tab_10) Tryd.underlying123 (Opd.str Tryd.underlying9 (by kernel_rfl)) (by kernel_rfl) hd8 (by kernel_rfl)
  obtain rfl := Option.some.inj ((show Tryd.prog.globalNamed "charabanc/text.turns" = some 1 by kernel_rfl).symm.trans hg9)
  obtain rfl := Option.some.inj ((show (Tryd.prog.globals[1]?).map (·.type) = some 122 by kernel_rfl).symm.trans ht9)
  have hc9 : cs9.toList = tab_1.flatMap en_1 := tab_cells (tab := tab_1) Tryd.underlying122 (Opd.str Tryd.underlying9 (by kernel_rfl)) (by kernel_rfl) hd9 (by kernel_rfl)
  obtain rfl := Option.some.inj ((show Tryd.prog.globalNamed "charabanc/text.odd" = some 8 by kernel_rfl).symm.trans hg10)
  obtain rfl := Option.some.inj ((show (Tryd.prog.globals[8]?).map (·.type) = some 122 by kernel_rfl).symm.trans ht10)
  have hc10 : cs10.toList = tab_8.flatMap en_8 := tab_cells (tab := tab_8) Tryd.underlying122 (Opd.str Tryd.underlying9 (by kernel_rfl)) (by kernel_rfl) hd10 (by kernel_rfl)
  obtain rfl := Option.some.inj ((show Tryd.prog.globalNamed "charabanc/text.blocks" = some 4 by kernel_rfl).symm.trans hg11)
  obtain rfl := Option.some.inj ((show (Tryd.prog.globals[4]?).map (·.type) = some 123 by kernel_rfl).symm.trans ht11)
  have hc11 : cs11.toList = tab_4.flatMap en_4 := tab_cells (tab := tab_4) Tryd.underlying123 (Opd.str Tryd.underlying9 (by kernel_rfl)) (by kernel_rfl) hd11 (by kernel_rfl)
  obtain rfl := Option.some.inj ((show Tryd.prog.globalNamed "charabanc/text.ways" = some 3 by kernel_rfl).symm.trans hg12)
  obtain rfl := Option.some.inj ((show (Tryd.prog.globals[3]?).map (·.type) = some 123 by kernel_rfl).symm.trans ht12)
  have hc12 : cs12.toList = tab_3.flatMap en_3 := tab_cells (tab := tab_3) Tryd.underlying123 (Opd.str Tryd.underlying9 (by kernel_rfl)) (by kernel_rfl) hd12 (by kernel_rfl)
  obtain rfl := Option.some.inj ((show Tryd.prog.globalNamed "charabanc/text.modes" = some 7 by kernel_rfl).symm.trans hg13)
  obtain rfl := Option.some.inj ((show (Tryd.prog.globals[7]?).map (·.type) = some 123 by kernel_rfl).symm.trans ht13)
  have hc13 : cs13.toList = tab_7.flatMap en_7 := tab_cells (tab := tab_7) Tryd.underlying123 (Opd.str Tryd.underlying9 (by kernel_rfl)) (by kernel_rfl) hd13 (by kernel_rfl)
  exact ⟨gl_of_var hg0 hv0 hc0 (by kernel_rfl), gl_of_var hg1 hv1 hc1 (by kernel_rfl), gl_of_var hg2 hv2 hc2 (by kernel_rfl), gl_of_var hg3 hv3 hc3 (by kernel_rfl), gl_of_var hg4 hv4 hc4 (by kernel_rfl), gl_of_var hg5 hv5 hc5 (by kernel_rfl), gl_of_var hg6 hv6 hc6 (by kernel_rfl), gl_of_var hg7 hv7 hc7 (by kernel_rfl), gl_of_var hg8 hv8 hc8 (by kernel_rfl), gl_of_var hg9 hv9 hc9 (by kernel_rfl), gl_of_var hg10 hv10 hc10 (by kernel_rfl), gl_of_var hg11 hv11 hc11 (by kernel_rfl), gl_of_var hg12 hv12 hc12 (by kernel_rfl), gl_of_var hg13 hv13 hc13 (by kernel_rfl)⟩
set_option maxRecDepth 100000 in
theorem lifted (os : Os) (started : os.Started) (H : Type) (enc : TypeId × Value → H) :
    ReturnsInHanded {} Tryd.checked os 9 .any (fun w args => (Rows.textOwnSpec.pre enc Tryd.prog Tryd.f9 Rows.textOwnRow.domain false w args ∧ laidMetH Tryd.prog laidL w) ∧ sizedMet enc Tryd.prog Tryd.f9 (OpenSpec.ofChange Rows.textOwnSpec) false w args) (Rows.textOwnSpec.post enc Tryd.prog Tryd.f9 false true false false) := by
  refine returnsInHanded_of_change_and (C := Tryd.checked) (X := (fun w _ => laidMetH Tryd.prog laidL w)) (fun _ _ _ hh h => h.of_heap hh) own started (by kernel_rfl) Tryd.func9
    (ChangeSpec.witness_shaped (enc := enc) (C := Tryd.checked) (os := os) (X := (fun w _ => laidMetH Tryd.prog laidL w)) false (World.doorLaid Tryd.prog 4000 os) #[.int .u8 0, .int .u16 0] 8 rfl (World.shaped_of_RefB (by kernel_rfl) (by kernel_rfl)) (by kernel_rfl) (by kernel_rfl) (by kernel_rfl) (door_met os _)) ?_
  intro W base args ds gs before hval0 hW hcnd hsz0 hL _
  have hsz : (DataW.weightsEach Tryd.prog (Tryd.f9.params.toList ++ Rows.textOwnSpec.plain.varTypes Tryd.prog) (ds ++ gs)).all (· ≤ reachBytes) = true := hsz0
  have hval : ∀ (j : Nat) t v, Tryd.f9.params[j]? = some t → args[j]? = some v → Value.okWide Tryd.prog W .any base t v := hval0
  have hW' := hW
  obtain ⟨p, q, hA0, hV, rfl, hfz, hnd⟩ := hW
  have hA : DataW.TrodAll enc Tryd.prog W 0 (fun _ => true) true Tryd.f9.params.toList args.toList ds p := hA0
  rw [Tryd.params9] at hA hval hsz
  obtain ⟨v0, vs0, d0, ds0, p0, q0, hargs, rfl, rfl, h0, r0⟩ := trodAll_cons hA
  obtain ⟨v1, vs1, d1, ds1, p1, q1, rfl, rfl, rfl, h1, r1⟩ := trodAll_cons r0
  obtain ⟨rfl, rfl, rfl⟩ := trodAll_nil r1
  obtain rfl : args = #[v0, v1] := by cases args; simp_all
  obtain ⟨rfl, rfl⟩ := trodVars_none hV
  have k0 := h0
  have lt0 := Trod_lt h0
  obtain ⟨a0, rfl, rfl, rfl, w0⟩ := open_int Tryd.underlying5 (hval 0 5 v0 rfl rfl) h0
  have k1 := h1
  have lt1 := Trod_lt h1
  obtain ⟨a1, rfl, rfl, rfl, w1⟩ := open_int Tryd.underlying22 (hval 1 22 v1 rfl rfl) h1
  clear hA0 hval0 hsz0 hsz
  obtain ⟨K, hK⟩ := Pure.TextOwn a0 a1 w0 w1
  refine (Go.Proofs.YtilgjfckgkkfmaaDoor.Tex.charabanclaw09_TextOwn_9_ok K (fun _ => False) W a0 a1 (fun _ hf => hf.elim) (of_laid hL).2.2.2.2.2.1 (of_laid hL).2.2.2.2.2.2.2.2.2.1 (of_laid hL).2.2.2.2.2.2.1 (of_laid hL).2.2.2.2.2.2.2.2.2.2.2.2.1 (of_laid hL).2.2.2.2.2.2.2.2.2.2.2.1 (of_laid hL).2.2.2.1 (of_laid hL).2.2.2.2.1 (of_laid hL).2.2.2.2.2.2.2.2.2.2.2.2.2 (of_laid hL).2.2.2.2.2.2.2.2.2.2.1 (of_laid hL).2.2.2.2.2.2.2.1 (of_laid hL).2.2.2.2.2.2.2.2.1 (of_laid hL).2.2.1 (of_laid hL).1 (of_laid hL).2.1 hK).mono fun e W' ⟨he, bel⟩ => ?_
  subst he
  exact ⟨_, rfl, _, _, _, [], _, [], hW', trodAll_mk1 (shut_bool Tryd.underlying4 _), (trodAll_cons_mk (Below.trod laidOut (by kernel_rfl) (of_decide_eq_true (by kernel_rfl)) k0 bel lt0) (trodAll_cons_mk (Below.trod laidOut (by kernel_rfl) (of_decide_eq_true (by kernel_rfl)) k1 bel lt1) trodAll_mk0)), rfl, bel.frame _, fun h => by cases h⟩
theorem over : Rows.textOwnRow.holds Tryd.pinned (OpenSpec.ofChange Rows.textOwnSpec) :=
  OpenClaim.holds_of_wide 9 Tryd.f9 rfl rfl rfl rfl rfl rfl rfl ⟨rfl, rfl, rfl, rfl, rfl⟩ rfl rfl rfl rfl rfl (by kernel_rfl) Tryd.func9 (by kernel_rfl)
    (of_decide_eq_true (by kernel_rfl)) (by unfold Func.isWrapper; first | (rw [if_pos (by decide +kernel)]; kernel_rfl) | (rw [if_neg (by decide +kernel)]; exact ⟨rfl, rfl⟩))
    (fun os started H enc _ => lifted os started H enc)
theorem proved : Rows.TextOwnCardSaid :=
  Claim7.holds_tied_plain_at .later [] [.data, .data, .data, .data, .data, .data, .data, .data, .data, .data, .data, .data, .data, .data] true (true, "bae07574ce7423b8a9158d78d6001c8957be3969313c65d27a1719d75f2118ac") false
    over (fun _ h => by cases h) (by kernel_rfl) (fun _ h => by cases h) textOwn_row_tie rfl ⟨rfl, rfl⟩ (by kernel_rfl) rfl
    (fun f fn hf hfn => by
      obtain rfl : f = 9 := Option.some.inj ((show Tryd.prog.funcNamed "charabanc/charabanclaw09.TextOwn" = some 9 by kernel_rfl).symm.trans hf) |>.symm
      obtain rfl : fn = Tryd.f9 := (Option.some.inj (Tryd.func9.symm.trans hfn)).symm
      exact ⟨by kernel_rfl, fun j t ht => by
        rw [Tryd.params9] at ht
        have hm : t ∈ ([5, 22] : List Nat) := by simpa using Array.mem_of_getElem? ht
        have ha : ([5, 22] : List Nat).all (fun t => !(Tryd.prog.wantsStandIn t)) = true := by kernel_rfl
        exact (show Tryd.prog.wantsStandIn t = false by simpa using List.all_eq_true.1 ha t hm)⟩)
    (by kernel_rfl)
#print axioms proved
end Go.Proofs.YtilgjfckgkkfmaaDoor.textOwn
namespace Go.Proofs.YtilgjfckgkkfmaaDoor
/-- The row, under a short name, for the claim. -/
theorem textOwn_holds : Rows.TextOwnCardSaid := textOwn.proved
end Go.Proofs.YtilgjfckgkkfmaaDoor
