/- The row of the statement ImageBack, out of its Pure and its told function; own work. -/
import Derived.Lay
import Derived.Test.YtbcepghanbkncaaDoorRows
import Derived.Test.YtbcepghanbkncaaDoorImImageBack
import Derived.Test.YtbcepghanbkncaaDoorPureImageBack
import Derived.Test.YtbcepghanbkncaaDoorEngLaid
import Derived.Handed
import Derived.LaidMore
import Derived.LaidHandle
import Derived.Test.YtbcepghanbkncaaDoorCards
import Derived.Test.YtbcepghanbkncaaDoorTie
import Derived.SevenTiedAt
namespace Go.Proofs.YtbcepghanbkncaaDoor.imageBack
open Go.ChangeShapes Go.WideShapes Go.ChangeAt Go.RowKit Go.Eng
open Go.ChangeMaps (open_string shut_string)
set_option linter.unusedVariables false
set_option linter.unusedSimpArgs false
theorem own : ownKnob Tryd.prog.godebug = none := by kernel_rfl
theorem laidOut : laidOutB Tryd.prog = true := by kernel_rfl
open Go.Proofs.YtbcepghanbkncaaDoor
def laidL : List (String × DataW Unit) := [("math/bits.deBruijn32tab", Rows.laid_math_bits_deBruijn32tab), ("math/bits.deBruijn64tab", Rows.laid_math_bits_deBruijn64tab), ("internal/strconv.uint64pow10", Rows.laid_internal_strconv_uint64pow10), ("unicode/utf8.acceptRanges", Rows.laid_unicode_utf8_acceptRanges), ("unicode/utf8.first", Rows.laid_unicode_utf8_first)]
theorem door_met (os : Os) (args : Array Value) : laidMetH Tryd.prog laidL ((World.laidAll Tryd.prog os laidL).forCall (fun _ _ => 0) ⟨#[], args, []⟩).memory :=
  by rw [MakeChecks.laidMetH_plain _ _ _ (by kernel_rfl)]; exact laidMet_laidAll _ (by kernel_rfl) (by kernel_rfl)
open Go.Proofs.YtbcepghanbkncaaDoor.Im
theorem of_laid {W : World} (h : laidMetH Tryd.prog laidL W) : (gl 4 (tab_4.flatMap en_4)).ok W (fun _ => False) ∧ (gl 5 (tab_5.flatMap en_5)).ok W (fun _ => False) ∧ (gl 1 (tab_1.flatMap en_1)).ok W (fun _ => False) := by
  rw [MakeChecks.laidMetH_plain _ _ _ (by kernel_rfl)] at h
  obtain ⟨ps, ⟨g0, t0, cs0, f0, p0, q0, hg0, ht0, hv0, hd0, ⟨g1, t1, cs1, f1, p1, q1, hg1, ht1, hv1, hd1, ⟨g2, t2, cs2, f2, p2, q2, hg2, ht2, hv2, hd2, ⟨g3, t3, cs3, f3, p3, q3, hg3, ht3, hv3, hd3, ⟨g4, t4, cs4, f4, p4, q4, hg4, ht4, hv4, hd4, _, _⟩, _⟩, _⟩, _⟩, _⟩, _, _⟩ := h
  obtain rfl := Option.some.inj ((show Tryd.prog.globalNamed "math/bits.deBruijn32tab" = some 4 by kernel_rfl).symm.trans hg0)
  obtain rfl := Option.some.inj ((show (Tryd.prog.globals[4]?).map (·.type) = some 144 by kernel_rfl).symm.trans ht0)
  have hc0 : cs0.toList = tab_4.flatMap en_4 := tab_cells (tab := tab_4) Tryd.underlying144 (Opd.int Tryd.underlying5 (by kernel_rfl)) (by kernel_rfl) hd0 (by kernel_rfl)
  obtain rfl := Option.some.inj ((show Tryd.prog.globalNamed "math/bits.deBruijn64tab" = some 5 by kernel_rfl).symm.trans hg1)
  obtain rfl := Option.some.inj ((show (Tryd.prog.globals[5]?).map (·.type) = some 145 by kernel_rfl).symm.trans ht1)
  have hc1 : cs1.toList = tab_5.flatMap en_5 := tab_cells (tab := tab_5) Tryd.underlying145 (Opd.int Tryd.underlying5 (by kernel_rfl)) (by kernel_rfl) hd1 (by kernel_rfl)
  obtain rfl := Option.some.inj ((show Tryd.prog.globalNamed "internal/strconv.uint64pow10" = some 1 by kernel_rfl).symm.trans hg2)
  obtain rfl := Option.some.inj ((show (Tryd.prog.globals[1]?).map (·.type) = some 135 by kernel_rfl).symm.trans ht2)
  have hc2 : cs2.toList = tab_1.flatMap en_1 := tab_cells (tab := tab_1) Tryd.underlying135 (Opd.int Tryd.underlying121 (by kernel_rfl)) (by kernel_rfl) hd2 (by kernel_rfl)
  exact ⟨gl_of_var hg0 hv0 hc0 (by kernel_rfl), gl_of_var hg1 hv1 hc1 (by kernel_rfl), gl_of_var hg2 hv2 hc2 (by kernel_rfl)⟩
set_option maxRecDepth 100000 in
theorem lifted (os : Os) (started : os.Started) (H : Type) (enc : TypeId × Value → H) :
    ReturnsInHanded {} Tryd.checked os 5 .any (fun w args => (Rows.imageBackSpec.pre enc Tryd.prog Tryd.f5 Rows.imageBackRow.domain false w args ∧ laidMetH Tryd.prog laidL w) ∧ sizedMet enc Tryd.prog Tryd.f5 (OpenSpec.ofChange Rows.imageBackSpec) false w args) (Rows.imageBackSpec.post enc Tryd.prog Tryd.f5 false true false false) := by
  refine returnsInHanded_of_change_and (C := Tryd.checked) (X := (fun w _ => laidMetH Tryd.prog laidL w)) (fun _ _ _ hh h => h.of_heap hh) own started (by kernel_rfl) Tryd.func5
    (ChangeSpec.witness_shaped (enc := enc) (C := Tryd.checked) (os := os) (X := (fun w _ => laidMetH Tryd.prog laidL w)) false (World.laidAll Tryd.prog os laidL) #[.agg #[.slice none 0 0, .int .i64 0, .int .i64 0, .slice none 0 0, .int .u16 0], .slice none 0 0] 8 rfl (World.shaped_of_ZipB (by kernel_rfl) (by kernel_rfl)) (by kernel_rfl) (by kernel_rfl) (by kernel_rfl) (door_met os _)) ?_
  intro W base args ds gs before hval0 hW hcnd hsz0 hL _
  have hsz : (DataW.weightsEach Tryd.prog (Tryd.f5.params.toList ++ Rows.imageBackSpec.plain.varTypes Tryd.prog) (ds ++ gs)).all (· ≤ reachBytes) = true := hsz0
  have hval : ∀ (j : Nat) t v, Tryd.f5.params[j]? = some t → args[j]? = some v → Value.okWide Tryd.prog W .any base t v := hval0
  have hW' := hW
  obtain ⟨p, q, hA0, hV, rfl, hfz, hnd⟩ := hW
  have hA : DataW.TrodAll enc Tryd.prog W 0 (fun _ => true) true Tryd.f5.params.toList args.toList ds p := hA0
  rw [Tryd.params5] at hA hval hsz
  obtain ⟨v0, vs0, d0, ds0, p0, q0, hargs, rfl, rfl, h0, r0⟩ := trodAll_cons hA
  obtain ⟨v1, vs1, d1, ds1, p1, q1, rfl, rfl, rfl, h1, r1⟩ := trodAll_cons r0
  obtain ⟨rfl, rfl, rfl⟩ := trodAll_nil r1
  obtain rfl : args = #[v0, v1] := by cases args; simp_all
  obtain ⟨rfl, rfl⟩ := trodVars_none hV
  have k0 := h0
  have lt0 := Trod_lt h0
  obtain ⟨cs0, rfl, _⟩ := okWide_struct Tryd.underlying29 (hval 0 29 v0 rfl rfl)
  obtain ⟨a0, ha0, w0⟩ := Opn.get (Opn.struct Tryd.underlying29 (by kernel_rfl) (OpnL.cons (o := 0) (o2 := 4) (by kernel_rfl) (Opn.struct Tryd.underlying26 (by kernel_rfl) (OpnL.cons (o := 0) (o2 := 1) (by kernel_rfl) (Opn.slice (B := 1) Tryd.underlying22 (by kernel_rfl) (by kernel_rfl) (by decide) (Opn.int Tryd.underlying5 (by kernel_rfl))) (by kernel_rfl) (OpnL.cons (o := 1) (o2 := 2) (by kernel_rfl) (Opn.int Tryd.underlying3 (by kernel_rfl)) (by kernel_rfl) (OpnL.cons (o := 2) (o2 := 3) (by kernel_rfl) (Opn.int Tryd.underlying3 (by kernel_rfl)) (by kernel_rfl) (OpnL.one (o := 3) (by kernel_rfl) (Opn.slice (B := 16) Tryd.underlying24 (by kernel_rfl) (by kernel_rfl) (by decide) (Opn.struct Tryd.underlying64 (by kernel_rfl) (OpnL.cons (o := 0) (o2 := 1) (by kernel_rfl) (Opn.int Tryd.underlying3 (by kernel_rfl)) (by kernel_rfl) (OpnL.one (o := 1) (by kernel_rfl) (Opn.int Tryd.underlying5 (by kernel_rfl))))))))))) (by kernel_rfl) (OpnL.one (o := 4) (by kernel_rfl) (Opn.int Tryd.underlying27 (by kernel_rfl))))) hsz 0 rfl rfl h0
  obtain ⟨_, _, hcs0, ⟨_, _, rfl, ⟨v0_0, rfl, e0_0⟩, ⟨_, _, rfl, rfl, ⟨_, _, rfl, rfl, ⟨v0_1, rfl, e0_1⟩⟩⟩⟩, rfl⟩ := ha0
  obtain rfl : cs0 = #[v0_0, .int .i64 a0.1.2.1, .int .i64 a0.1.2.2.1, v0_1, .int .u16 a0.2] := Array.ext' hcs0
  obtain ⟨Ae0_0, ce0_0, rfl⟩ := e0_0.form
  obtain ⟨Ae0_1, ce0_1, rfl⟩ := e0_1.form
  have k1 := h1
  have lt1 := Trod_lt h1
  obtain ⟨A1, len1, cap1, rfl⟩ := okWide_slice Tryd.underlying22 (hval 1 22 v1 rfl rfl)
  obtain ⟨a1, rfl, hs1, w1⟩ := Opn.getSl (Opn.slice (B := 1) Tryd.underlying22 (by kernel_rfl) (by kernel_rfl) (by decide) (Opn.int Tryd.underlying5 (by kernel_rfl))) hsz 1 rfl rfl h1
  clear hA0 hval0 hsz0 hsz
  obtain ⟨K, hK⟩ := Pure.ImageBack a0 a1 w0 w1
  refine (Go.Proofs.YtbcepghanbkncaaDoor.Im.charabanclaw30_ImageBack_5_ok K (fun _ => False) W Ae0_0 ce0_0 Ae0_1 ce0_1 A1 cap1 a0.1.1 a0.1.2.1 a0.1.2.2.1 a0.1.2.2.2 a0.2 a1 (fun _ hf => hf.elim) e0_0 e0_1 hs1 (of_laid hL).2.2 (of_laid hL).1 (of_laid hL).2.1 hK).mono fun e W' ⟨he, bel⟩ => ?_
  subst he
  exact ⟨_, rfl, _, _, _, [], _, [], hW', trodAll_mk1 (shut_bool Tryd.underlying4 _), (trodAll_cons_mk (Below.trod laidOut (by kernel_rfl) (of_decide_eq_true (by kernel_rfl)) k0 bel lt0) (trodAll_cons_mk (Below.trod laidOut (by kernel_rfl) (of_decide_eq_true (by kernel_rfl)) k1 bel lt1) trodAll_mk0)), rfl, bel.frame _, fun h => by cases h⟩
theorem over : Rows.imageBackRow.holds Tryd.pinned (OpenSpec.ofChange Rows.imageBackSpec) :=
  OpenClaim.holds_of_wide 5 Tryd.f5 rfl rfl rfl rfl rfl rfl rfl ⟨rfl, rfl, rfl, rfl, rfl⟩ rfl rfl rfl rfl rfl (by kernel_rfl) Tryd.func5 (by kernel_rfl)
    (of_decide_eq_true (by kernel_rfl)) (by unfold Func.isWrapper; first | (rw [if_pos (by decide +kernel)]; kernel_rfl) | (rw [if_neg (by decide +kernel)]; exact ⟨rfl, rfl⟩))
    (fun os started H enc _ => lifted os started H enc)
theorem proved : Rows.ImageBackCardSaid :=
  Claim7.holds_tied_plain_at .later [] [.data, .data, .data, .data, .pinned] true (true, "c32144926c0cd59e3b5a3ab940b6ac6f63c0555695fe56bacac0b5248086820f") false
    over (fun _ h => by cases h) (by kernel_rfl) (fun _ h => by cases h) imageBack_row_tie rfl ⟨rfl, rfl⟩ (by kernel_rfl) rfl
    (fun f fn hf hfn => by
      obtain rfl : f = 5 := Option.some.inj ((show Tryd.prog.funcNamed "charabanc/charabanclaw30.ImageBack" = some 5 by kernel_rfl).symm.trans hf) |>.symm
      obtain rfl : fn = Tryd.f5 := (Option.some.inj (Tryd.func5.symm.trans hfn)).symm
      exact ⟨by kernel_rfl, fun j t ht => by
        rw [Tryd.params5] at ht
        have hm : t ∈ ([29, 22] : List Nat) := by simpa using Array.mem_of_getElem? ht
        have ha : ([29, 22] : List Nat).all (fun t => !(Tryd.prog.wantsStandIn t)) = true := by kernel_rfl
        exact (show Tryd.prog.wantsStandIn t = false by simpa using List.all_eq_true.1 ha t hm)⟩)
    (by kernel_rfl)
#print axioms proved
end Go.Proofs.YtbcepghanbkncaaDoor.imageBack
namespace Go.Proofs.YtbcepghanbkncaaDoor
/-- The row, under a short name, for the claim. -/
theorem imageBack_holds : Rows.ImageBackCardSaid := imageBack.proved
end Go.Proofs.YtbcepghanbkncaaDoor
