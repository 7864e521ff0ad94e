/- The row of the statement ListingLeads, out of its Pure and its told function; own work. -/
import Derived.Lay
import Derived.Test.YtbcepghanbkncaaGreatDoorRows
import Derived.Test.YtbcepghanbkncaaGreatDoorLiTListingLeads
import Derived.Test.YtbcepghanbkncaaGreatDoorPureListingLeads
import Derived.Test.YtbcepghanbkncaaGreatDoorEngLaid
import Derived.Handed
import Derived.LaidMore
import Derived.LaidHandle
import Derived.Test.YtbcepghanbkncaaGreatDoorCards
import Derived.Test.YtbcepghanbkncaaGreatDoorTie
import Derived.SevenTiedAt
namespace Go.Proofs.YtbcepghanbkncaaGreatDoor.listingLeads
open Go.ChangeShapes Go.WideShapes Go.ChangeAt Go.RowKit Go.Eng
open Go.ChangeMaps (open_string shut_string)
set_option linter.unusedVariables false
set_option linter.unusedSimpArgs false
theorem own : ownKnob Tryz.prog.godebug = none := by kernel_rfl
theorem laidOut : laidOutB Tryz.prog = true := by kernel_rfl
open Go.Proofs.YtbcepghanbkncaaGreatDoor
def laidL : List (String × DataW Unit) := [("math/bits.deBruijn32tab", Rows.laid_math_bits_deBruijn32tab), ("math/bits.deBruijn64tab", Rows.laid_math_bits_deBruijn64tab), ("internal/strconv.uint64pow10", Rows.laid_internal_strconv_uint64pow10), ("unicode/utf8.acceptRanges", Rows.laid_unicode_utf8_acceptRanges), ("charabanc/text.regs", Rows.laid_charabanc_text_regs), ("charabanc/text.pairs", Rows.laid_charabanc_text_pairs), ("charabanc/text.conds", Rows.laid_charabanc_text_conds), ("charabanc/text.sums", Rows.laid_charabanc_text_sums), ("charabanc/text.shifts", Rows.laid_charabanc_text_shifts), ("charabanc/text.asks", Rows.laid_charabanc_text_asks), ("charabanc/text.turns", Rows.laid_charabanc_text_turns), ("charabanc/text.odd", Rows.laid_charabanc_text_odd), ("charabanc/text.blocks", Rows.laid_charabanc_text_blocks), ("charabanc/text.ways", Rows.laid_charabanc_text_ways), ("charabanc/text.modes", Rows.laid_charabanc_text_modes), ("unicode/utf8.first", Rows.laid_unicode_utf8_first)]
theorem door_met (os : Os) (args : Array Value) : laidMetH Tryz.prog laidL ((World.laidAll Tryz.prog os laidL).forCall (fun _ _ => 0) ⟨#[], args, []⟩).memory :=
  by rw [MakeChecks.laidMetH_plain _ _ _ (by kernel_rfl)]; exact laidMet_laidAll _ (by kernel_rfl) (by kernel_rfl)
open Go.Proofs.YtbcepghanbkncaaGreatDoor.LiT
theorem of_laid {W : World} (h : laidMetH Tryz.prog laidL W) : (gl 15 (tab_15.flatMap en_15)).ok W (fun _ => False) ∧ (gl 16 (tab_16.flatMap en_16)).ok W (fun _ => False) ∧ (gl 12 (tab_12.flatMap en_12)).ok W (fun _ => False) ∧ (gl 14 (tab_14.flatMap en_14)).ok W (fun _ => False) ∧ (gl 6 (tab_6.flatMap en_6)).ok W (fun _ => False) ∧ (gl 7 (tab_7.flatMap en_7)).ok W (fun _ => False) ∧ (gl 1 (tab_1.flatMap en_1)).ok W (fun _ => False) ∧ (gl 3 (tab_3.flatMap en_3)).ok W (fun _ => False) ∧ (gl 10 (tab_10.flatMap en_10)).ok W (fun _ => False) ∧ (gl 11 (tab_11.flatMap en_11)).ok W (fun _ => False) ∧ (gl 2 (tab_2.flatMap en_2)).ok W (fun _ => False) ∧ (gl 9 (tab_9.flatMap en_9)).ok W (fun _ => False) ∧ (gl 5 (tab_5.flatMap en_5)).ok W (fun _ => False) ∧ (gl 4 (tab_4.flatMap en_4)).ok W (fun _ => False) ∧ (gl 8 (tab_8.flatMap en_8)).ok W (fun _ => False) ∧ (gl 13 (tab_13.flatMap en_13)).ok W (fun _ => False) := by
  rw [MakeChecks.laidMetH_plain _ _ _ (by kernel_rfl)] at h
  obtain ⟨ps, ⟨g0, t0, cs0, f0, p0, q0, hg0, ht0, hv0, hd0, ⟨g1, t1, cs1, f1, p1, q1, hg1, ht1, hv1, hd1, ⟨g2, t2, cs2, f2, p2, q2, hg2, ht2, hv2, hd2, ⟨g3, t3, cs3, f3, p3, q3, hg3, ht3, hv3, hd3, ⟨g4, t4, cs4, f4, p4, q4, hg4, ht4, hv4, hd4, ⟨g5, t5, cs5, f5, p5, q5, hg5, ht5, hv5, hd5, ⟨g6, t6, cs6, f6, p6, q6, hg6, ht6, hv6, hd6, ⟨g7, t7, cs7, f7, p7, q7, hg7, ht7, hv7, hd7, ⟨g8, t8, cs8, f8, p8, q8, hg8, ht8, hv8, hd8, ⟨g9, t9, cs9, f9, p9, q9, hg9, ht9, hv9, hd9, ⟨g10, t10, cs10, f10, p10, q10, hg10, ht10, hv10, hd10, ⟨g11, t11, cs11, f11, p11, q11, hg11, ht11, hv11, hd11, ⟨g12, t12, cs12, f12, p12, q12, hg12, ht12, hv12, hd12, ⟨g13, t13, cs13, f13, p13, q13, hg13, ht13, hv13, hd13, ⟨g14, t14, cs14, f14, p14, q14, hg14, ht14, hv14, hd14, ⟨g15, t15, cs15, f15, p15, q15, hg15, ht15, hv15, hd15, _, _⟩, _⟩, _⟩, _⟩, _⟩, _⟩, _⟩, _⟩, _⟩, _⟩, _⟩, _⟩, _⟩, _⟩, _⟩, _⟩, _, _⟩ := h
  obtain rfl := Option.some.inj ((show Tryz.prog.globalNamed "math/bits.deBruijn32tab" = some 15 by kernel_rfl).symm.trans hg0)
  obtain rfl := Option.some.inj ((show (Tryz.prog.globals[15]?).map (·.type) = some 199 by kernel_rfl).symm.trans ht0)
  have hc0 : cs0.toList = tab_15.flatMap en_15 := tab_cells (tab := tab_15) Tryz.underlying199 (Opd.int Tryz.underlying5 (by kernel_rfl)) (by kernel_rfl) hd0 (by kernel_rfl)
  obtain rfl := Option.some.inj ((show Tryz.prog.globalNamed "math/bits.deBruijn64tab" = some 16 by kernel_rfl).symm.trans hg1)
  obtain rfl := Option.some.inj ((show (Tryz.prog.globals[16]?).map (·.type) = some 200 by kernel_rfl).symm.trans ht1)
  have hc1 : cs1.toList = tab_16.flatMap en_16 := tab_cells (tab := tab_16) Tryz.underlying200 (Opd.int Tryz.underlying5 (by kernel_rfl)) (by kernel_rfl) hd1 (by kernel_rfl)
  obtain rfl := Option.some.inj ((show Tryz.prog.globalNamed "internal/strconv.uint64pow10" = some 12 by kernel_rfl).symm.trans hg2)
  obtain rfl := Option.some.inj ((show (Tryz.prog.globals[12]?).map (·.type) = some 186 by kernel_rfl).symm.trans ht2)
  have hc2 : cs2.toList = tab_12.flatMap en_12 := tab_cells (tab := tab_12) Tryz.underlying186 (Opd.int Tryz.underlying122 (by kernel_rfl)) (by kernel_rfl) hd2 (by kernel_rfl)
  obtain rfl := Option.some.inj ((show Tryz.prog.globalNamed "unicode/utf8.acceptRanges" = some 14 by kernel_rfl).symm.trans hg3)
  obtain rfl := Option.some.inj ((show (Tryz.prog.globals[14]?).map (·.type) = some 192 by kernel_rfl).symm.trans ht3)
  have hc3 : cs3.toList = tab_14.flatMap en_14 := tab_cells (tab := tab_14) Tryz.underlying192 (Opd.pair Tryz.underlying191 rfl (by kernel_rfl) rfl rfl (Opd.int Tryz.underlying5 (by kernel_rfl)) (Opd.int Tryz.underlying5 (by kernel_rfl))) (by kernel_rfl) hd3 (by kernel_rfl)
  obtain rfl := Option.some.inj ((show Tryz.prog.globalNamed "charabanc/text.regs" = some 6 by kernel_rfl).symm.trans hg4)
  obtain rfl := Option.some.inj ((show (Tryz.prog.globals[6]?).map (·.type) = some 169 by kernel_rfl).symm.trans ht4)
  have hc4 : cs4.toList = tab_6.flatMap en_6 := tab_cells (tab := tab_6) Tryz.underlying169 (Opd.str Tryz.underlying9 (by kernel_rfl)) (by kernel_rfl) hd4 (by kernel_rfl)
  obtain rfl := Option.some.inj ((show Tryz.prog.globalNamed "charabanc/text.pairs" = some 7 by kernel_rfl).symm.trans hg5)
  obtain rfl := Option.some.inj ((show (Tryz.prog.globals[7]?).map (·.type) = some 173 by kernel_rfl).symm.trans ht5)
  have hc5 : cs5.toList = tab_7.flatMap en_7 := tab_cells (tab := tab_7) Tryz.underlying173 (Opd.str Tryz.underlying9 (by kernel_rfl)) (by kernel_rfl) hd5 (by kernel_rfl)
  obtain rfl := Option.some.inj ((show Tryz.prog.globalNamed "charabanc/text.conds" = some 1 by kernel_rfl).symm.trans hg6)
  obtain rfl := Option.some.inj ((show (Tryz.prog.globals[1]?).map (·.type) = some 169 by kernel_rfl).symm.trans ht6)
  have hc6 : cs6.toList = tab_1.flatMap en_1 := tab_cells (tab := tab_1) Tryz.underlying169 (Opd.str Tryz.underlying9 (by kernel_rfl)) (by kernel_rfl) hd6 (by kernel_rfl)
  obtain rfl := Option.some.inj ((show Tryz.prog.globalNamed "charabanc/text.sums" = some 3 by kernel_rfl).symm.trans hg7)
  obtain rfl := Option.some.inj ((show (Tryz.prog.globals[3]?).map (·.type) = some 169 by kernel_rfl).symm.trans ht7)
  have hc7 : cs7.toList = tab_3.flatMap en_3 := tab_cells (tab := tab_3) Tryz.underlying169 (Opd.str Tryz.underlying9 (by kernel_rfl)) (by kernel_rfl) hd7 (by kernel_rfl)
  obtain rfl := Option.some.inj ((show Tryz.prog.globalNamed "charabanc/text.shifts" = some 10 by kernel_rfl).symm.trans hg8)
  obtain rfl := Option.some.inj ((show (Tryz.prog.globals[10]?).map (·.type) = some 169 by kernel_rfl).symm.trans ht8)
  have hc8 : cs8.toList = tab_10.flatMap en_10 := tab_cells (tab := tab_10) Tryz.underlying169 (Opd.str Tryz.underlying9 (by kernel_rfl)) (by kernel_rfl) hd8 (by kernel_rfl)
  obtain rfl := Option.some.inj ((show Tryz.prog.globalNamed "charabanc/text.asks" = some 11 by kernel_rfl).symm.trans hg9)
  obtain rfl := Option.some.inj ((show (Tryz.prog.globals[11]?).map (·.type) = some 170 by kernel_rfl).symm.trans ht9)
  have hc9 : cs9.toList = tab_11.flatMap en_11 := tab_cells (tab := tab_11) Tryz.underlying170 (Opd.str Tryz.underlying9 (by kernel_rfl)) (by kernel_rfl) hd9 (by kernel_rfl)
  obtain rfl := Option.some.inj ((show Tryz.prog.globalNamed "charabanc/text.turns" = some 2 by kernel_rfl).symm.trans hg10)
  obtain rfl := Option.some.inj ((show (Tryz.prog.globals[2]?).map (·.type) = some 169 by kernel_rfl).symm.trans ht10)
  have hc10 : cs10.toList = tab_2.flatMap en_2 := tab_cells (tab := tab_2) Tryz.underlying169 (Opd.str Tryz.underlying9 (by kernel_rfl)) (by kernel_rfl) hd10 (by kernel_rfl)
  obtain rfl := Option.some.inj ((show Tryz.prog.globalNamed "charabanc/text.odd" = some 9 by kernel_rfl).symm.trans hg11)
  obtain rfl := Option.some.inj ((show (Tryz.prog.globals[9]?).map (·.type) = some 169 by kernel_rfl).symm.trans ht11)
  have hc11 : cs11.toList = tab_9.flatMap en_9 := tab_cells (tab := tab_9) Tryz.underlying169 (Opd.str Tryz.underlying9 (by kernel_rfl)) (by kernel_rfl) hd11 (by kernel_rfl)
  obtain rfl := Option.some.inj ((show Tryz.prog.globalNamed "charabanc/text.blocks" = some 5 by kernel_rfl).symm.trans hg12)
  obtain rfl := Option.some.inj ((show (Tryz.prog.globals[5]?).map (·.type) = some 170 by kernel_rfl).symm.trans ht12)
  have hc12 : cs12.toList = tab_5.flatMap en_5 := tab_cells (tab := tab_5) Tryz.underlying170 (Opd.str Tryz.underlying9 (by kernel_rfl)) (by kernel_rfl) hd12 (by kernel_rfl)
  obtain rfl := Option.some.inj ((show Tryz.prog.globalNamed "charabanc/text.ways" = some 4 by kernel_rfl).symm.trans hg13)
  obtain rfl := Option.some.inj ((show (Tryz.prog.globals[4]?).map (·.type) = some 170 by kernel_rfl).symm.trans ht13)
  have hc13 : cs13.toList = tab_4.flatMap en_4 := tab_cells (tab := tab_4) Tryz.underlying170 (Opd.str Tryz.underlying9 (by kernel_rfl)) (by kernel_rfl) hd13 (by kernel_rfl)
  obtain rfl := Option.some.inj ((show Tryz.prog.globalNamed "charabanc/text.modes" = some 8 by kernel_rfl).symm.trans hg14)
  obtain rfl := Option.some.inj ((show (Tryz.prog.globals[8]?).map (·.type) = some 170 by kernel_rfl).symm.trans ht14)
  have hc14 : cs14.toList = tab_8.flatMap en_8 := tab_cells (tab := tab_8) Tryz.underlying170 (Opd.str Tryz.underlying9 (by kernel_rfl)) (by kernel_rfl) hd14 (by kernel_rfl)
  obtain rfl := Option.some.inj ((show Tryz.prog.globalNamed "unicode/utf8.first" = some 13 by kernel_rfl).symm.trans hg15)
  obtain rfl := Option.some.inj ((show (Tryz.prog.globals[13]?).map (·.type) = some 189 by kernel_rfl).symm.trans ht15)
  have hc15 : cs15.toList = tab_13.flatMap en_13 := tab_cells (tab := tab_13) Tryz.underlying189 (Opd.int Tryz.underlying5 (by kernel_rfl)) (by kernel_rfl) hd15 (by kernel_rfl)
  exact ⟨gl_of_var hg0 hv0 hc0 (by kernel_rfl), gl_of_var hg1 hv1 hc1 (by kernel_rfl), gl_of_var hg2 hv2 hc2 (by kernel_rfl), gl_of_var hg3 hv3 hc3 (by kernel_rfl), gl_of_var hg4 hv4 hc4 (by kernel_rfl), gl_of_var hg5 hv5 hc5 (by kernel_rfl), gl_of_var hg6 hv6 hc6 (by kernel_rfl), gl_of_var hg7 hv7 hc7 (by kernel_rfl), gl_of_var hg8 hv8 hc8 (by kernel_rfl), gl_of_var hg9 hv9 hc9 (by kernel_rfl), gl_of_var hg10 hv10 hc10 (by kernel_rfl), gl_of_var hg11 hv11 hc11 (by kernel_rfl), gl_of_var hg12 hv12 hc12 (by kernel_rfl), gl_of_var hg13 hv13 hc13 (by kernel_rfl), gl_of_var hg14 hv14 hc14 (by kernel_rfl), gl_of_var hg15 hv15 hc15 (by kernel_rfl)⟩
set_option maxRecDepth 100000 in
theorem lifted (os : Os) (started : os.Started) (H : Type) (enc : TypeId × Value → H) :
    ReturnsInHanded {} Tryz.checked os 3 .any (fun w args => (Rows.listingLeadsSpec.pre enc Tryz.prog Tryz.f3 Rows.listingLeadsRow.domain false w args ∧ laidMetH Tryz.prog laidL w) ∧ sizedMet enc Tryz.prog Tryz.f3 (OpenSpec.ofChange Rows.listingLeadsSpec) false w args) (Rows.listingLeadsSpec.post enc Tryz.prog Tryz.f3 false true false false) := by
  refine returnsInHanded_of_calls own started (by kernel_rfl) (ChangeSpec.witness_shaped (enc := enc) (C := Tryz.checked) (os := os) (X := (fun w _ => laidMetH Tryz.prog laidL w)) false (World.laidAll Tryz.prog os laidL) #[.slice none 0 0, .int .u16 0, .agg #[.int .i64 0, .int .u8 0, .int .u8 0, .int .u16 0, .int .i64 0, .int .i64 0]] 8 rfl (World.shaped_of_ZipB (by kernel_rfl) (by kernel_rfl)) (by kernel_rfl) (by kernel_rfl) (by kernel_rfl) (door_met os _)) ?_
  intro w tape i _ hsh _ hok hpre _
  obtain ⟨_, _, _, fn', hfn', _, _, _, _, hval0⟩ := hok
  obtain rfl : fn' = Tryz.f3 := Option.some.inj (hfn'.symm.trans Tryz.func3)
  obtain ⟨⟨⟨ds, gs, before, hw0, hcnd⟩, hL0⟩, hz⟩ := hpre
  have hW := DataW.Whole.of_heap (w' := w.forCall tape i) (by rfl) hw0
  have hsz0 := hz.weights hw0
  have hL : laidMetH Tryz.prog laidL (w.forCall tape i) := hL0.of_heap (by rfl)
  obtain ⟨m0, hm0⟩ := Tryz.laysM143.s1_3 _ hsh
  suffices hS : Calls Tryz.prog 3 i.args (w.forCall tape i) fun e W' => ∃ v, e = .returned v ∧ Rows.listingLeadsSpec.post enc Tryz.prog Tryz.f3 false true false false (w.forCall tape i) i.args v W' from hS.mono fun e W' ⟨v, he, hp⟩ => by
    subst he
    exact ChangeSpec.post_blind hp
  generalize w.forCall tape i = W at hval0 hW hL hm0 ⊢
  generalize i.args = args at hval0 hW ⊢
  generalize w.heap.size = base at hval0
  have hsz : (DataW.weightsEach Tryz.prog (Tryz.f3.params.toList ++ Rows.listingLeadsSpec.plain.varTypes Tryz.prog) (ds ++ gs)).all (· ≤ reachBytes) = true := hsz0
  have hval : ∀ (j : Nat) t v, Tryz.f3.params[j]? = some t → args[j]? = some v → Value.okWide Tryz.prog W .any base t v := hval0
  have hW' := hW
  obtain ⟨p, q, hA0, hV, rfl, hfz, hnd⟩ := hW
  have hA : DataW.TrodAll enc Tryz.prog W 0 (fun _ => true) true Tryz.f3.params.toList args.toList ds p := hA0
  rw [Tryz.params3] at hA hval hsz
  obtain ⟨v0, vs0, d0, ds0, p0, q0, hargs, rfl, rfl, h0, r0⟩ := trodAll_cons hA
  obtain ⟨v1, vs1, d1, ds1, p1, q1, rfl, rfl, rfl, h1, r1⟩ := trodAll_cons r0
  obtain ⟨v2, vs2, d2, ds2, p2, q2, rfl, rfl, rfl, h2, r2⟩ := trodAll_cons r1
  obtain ⟨rfl, rfl, rfl⟩ := trodAll_nil r2
  obtain rfl : args = #[v0, v1, v2] := by cases args; simp_all
  obtain ⟨rfl, rfl⟩ := trodVars_none hV
  have k0 := h0
  have lt0 := Trod_lt h0
  obtain ⟨A0, len0, cap0, rfl⟩ := okWide_slice Tryz.underlying22 (hval 0 22 v0 rfl rfl)
  obtain ⟨a0, rfl, hs0, w0⟩ := Opn.getSl (Opn.slice (B := 4) Tryz.underlying22 (by kernel_rfl) (by kernel_rfl) (by decide) (Opn.struct Tryz.underlying69 (by kernel_rfl) (OpnL.cons (o := 0) (o2 := 1) (by kernel_rfl) (Opn.int Tryz.underlying23 (by kernel_rfl)) (by kernel_rfl) (OpnL.one (o := 1) (by kernel_rfl) (Opn.int Tryz.underlying5 (by kernel_rfl)))))) hsz 0 rfl rfl h0
  have k1 := h1
  have lt1 := Trod_lt h1
  obtain ⟨a1, rfl, rfl, rfl, w1⟩ := open_int Tryz.underlying23 (hval 1 23 v1 rfl rfl) h1
  have k2 := h2
  have lt2 := Trod_lt h2
  obtain ⟨cs2, rfl, _⟩ := okWide_struct Tryz.underlying25 (hval 2 25 v2 rfl rfl)
  obtain ⟨a2, ha2, w2⟩ := Opn.get (Opn.struct Tryz.underlying25 (by kernel_rfl) (OpnL.cons (o := 0) (o2 := 1) (by kernel_rfl) (Opn.int Tryz.underlying3 (by kernel_rfl)) (by kernel_rfl) (OpnL.cons (o := 1) (o2 := 2) (by kernel_rfl) (Opn.int Tryz.underlying5 (by kernel_rfl)) (by kernel_rfl) (OpnL.cons (o := 2) (o2 := 3) (by kernel_rfl) (Opn.int Tryz.underlying5 (by kernel_rfl)) (by kernel_rfl) (OpnL.cons (o := 3) (o2 := 4) (by kernel_rfl) (Opn.int Tryz.underlying23 (by kernel_rfl)) (by kernel_rfl) (OpnL.cons (o := 4) (o2 := 5) (by kernel_rfl) (Opn.int Tryz.underlying3 (by kernel_rfl)) (by kernel_rfl) (OpnL.one (o := 5) (by kernel_rfl) (Opn.int Tryz.underlying3 (by kernel_rfl))))))))) hsz 2 rfl rfl h2
  obtain ⟨_, _, hcs2, rfl, ⟨_, _, rfl, rfl, ⟨_, _, rfl, rfl, ⟨_, _, rfl, rfl, ⟨_, _, rfl, rfl, rfl⟩⟩⟩⟩⟩ := ha2
  obtain rfl : cs2 = #[.int .i64 a2.1, .int .u8 a2.2.1, .int .u8 a2.2.2.1, .int .u16 a2.2.2.2.1, .int .i64 a2.2.2.2.2.1, .int .i64 a2.2.2.2.2.2] := Array.ext' hcs2
  clear hA0 hval0 hsz0 hsz
  obtain ⟨K, hK⟩ := Pure.ListingLeads a0 a1 a2 w0 w1 w2
  refine (Go.Proofs.YtbcepghanbkncaaGreatDoor.LiT.charabanclaw34_ListingLeads_3_ok K (fun _ => False) W A0 cap0 a0 a1 a2.1 a2.2.1 a2.2.2.1 a2.2.2.2.1 a2.2.2.2.2.1 a2.2.2.2.2.2 (fun _ hf => hf.elim) hs0 (cel_of hm0) (of_laid hL).2.2.2.2.2.2.1 (of_laid hL).2.2.2.2.2.2.2.2.2.2.1 (of_laid hL).2.2.2.2.2.2.2.1 (of_laid hL).2.2.2.2.2.2.2.2.2.2.2.2.2.1 (of_laid hL).2.2.2.2.2.2.2.2.2.2.2.2.1 (of_laid hL).2.2.2.2.1 (of_laid hL).2.2.2.2.2.1 (of_laid hL).2.2.2.2.2.2.2.2.2.2.2.2.2.2.1 (of_laid hL).2.2.2.2.2.2.2.2.2.2.2.1 (of_laid hL).2.2.2.2.2.2.2.2.1 (of_laid hL).2.2.2.2.2.2.2.2.2.1 (of_laid hL).2.2.1 (of_laid hL).2.2.2.2.2.2.2.2.2.2.2.2.2.2.2 (of_laid hL).2.2.2.1 (of_laid hL).1 (of_laid hL).2.1 hK).mono fun e W' ⟨he, bel⟩ => ?_
  subst he
  exact ⟨_, rfl, _, _, _, [], _, [], hW', trodAll_mk1 (shut_bool Tryz.underlying4 _), (trodAll_cons_mk (Below.trod laidOut (by kernel_rfl) (of_decide_eq_true (by kernel_rfl)) k0 bel lt0) (trodAll_cons_mk (Below.trod laidOut (by kernel_rfl) (of_decide_eq_true (by kernel_rfl)) k1 bel lt1) (trodAll_cons_mk (Below.trod laidOut (by kernel_rfl) (of_decide_eq_true (by kernel_rfl)) k2 bel lt2) trodAll_mk0))), rfl, bel.frame _, fun h => by cases h⟩
theorem over : Rows.listingLeadsRow.holds Tryz.pinned (OpenSpec.ofChange Rows.listingLeadsSpec) :=
  OpenClaim.holds_of_wide 3 Tryz.f3 rfl rfl rfl rfl rfl rfl rfl ⟨rfl, rfl, rfl, rfl, rfl⟩ rfl rfl rfl rfl rfl (by kernel_rfl) Tryz.func3 (by kernel_rfl)
    (of_decide_eq_true (by kernel_rfl)) (by unfold Func.isWrapper; first | (rw [if_pos (by decide +kernel)]; kernel_rfl) | (rw [if_neg (by decide +kernel)]; exact ⟨rfl, rfl⟩))
    (fun os started H enc _ => lifted os started H enc)
theorem proved : Rows.ListingLeadsCardSaid :=
  Claim7.holds_tied_plain_at .later [] [.data, .data, .data, .data, .data, .data, .data, .data, .data, .data, .data, .data, .data, .data, .data, .pinned] true (true, "a10210092fe940a0b8b2498064666d0dbcca7e07048ff51b4d2581662e73ad00") false
    over (fun _ h => by cases h) (by kernel_rfl) (fun _ h => by cases h) listingLeads_row_tie rfl ⟨rfl, rfl⟩ (by kernel_rfl) rfl
    (fun f fn hf hfn => by
      obtain rfl : f = 3 := Option.some.inj ((show Tryz.prog.funcNamed "charabanc/charabanclaw34.ListingLeads" = some 3 by kernel_rfl).symm.trans hf) |>.symm
      obtain rfl : fn = Tryz.f3 := (Option.some.inj (Tryz.func3.symm.trans hfn)).symm
      exact ⟨by kernel_rfl, fun j t ht => by
        rw [Tryz.params3] at ht
        have hm : t ∈ ([22, 23, 25] : List Nat) := by simpa using Array.mem_of_getElem? ht
        have ha : ([22, 23, 25] : List Nat).all (fun t => !(Tryz.prog.wantsStandIn t)) = true := by kernel_rfl
        exact (show Tryz.prog.wantsStandIn t = false by simpa using List.all_eq_true.1 ha t hm)⟩)
    (by kernel_rfl)
#print axioms proved
end Go.Proofs.YtbcepghanbkncaaGreatDoor.listingLeads
namespace Go.Proofs.YtbcepghanbkncaaGreatDoor
theorem listingLeads_holds : Rows.ListingLeadsCardSaid := listingLeads.proved
end Go.Proofs.YtbcepghanbkncaaGreatDoor
