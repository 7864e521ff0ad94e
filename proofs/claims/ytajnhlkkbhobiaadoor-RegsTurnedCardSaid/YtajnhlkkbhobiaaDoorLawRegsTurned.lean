/- The row of the statement RegsTurned, out of its Pure and its told function; own work. -/
import Derived.Test.YtajnhlkkbhobiaaDoorRows
import Derived.Test.YtajnhlkkbhobiaaDoorRegRegsTurned
import Derived.Test.YtajnhlkkbhobiaaDoorPureRegsTurned
import Derived.Test.YtajnhlkkbhobiaaDoorEngLaid
import Derived.Handed
import Derived.LaidMore
import Derived.LaidHandle
import Derived.Test.YtajnhlkkbhobiaaDoorCards
import Derived.Test.YtajnhlkkbhobiaaDoorTie
import Derived.SevenTiedAt
namespace Go.Proofs.YtajnhlkkbhobiaaDoor.regsTurned
open Go.ChangeShapes Go.WideShapes Go.ChangeAt Go.RowKit Go.Eng
open Go.ChangeMaps (open_string shut_string)
set_option linter.unusedVariables false
set_option linter.unusedSimpArgs false
theorem own : ownKnob Tryd.prog.godebug = none := by kernel_rfl
theorem laidOut : laidOutB Tryd.prog = true := by kernel_rfl
open Go.Proofs.YtajnhlkkbhobiaaDoor
def laidL : List (String × DataW Unit) := [("math/bits.deBruijn32tab", Rows.laid_math_bits_deBruijn32tab), ("math/bits.deBruijn64tab", Rows.laid_math_bits_deBruijn64tab), ("internal/strconv.uint64pow10", Rows.laid_internal_strconv_uint64pow10)]
theorem door_met (os : Os) (args : Array Value) : laidMetH Tryd.prog laidL ((World.doorLaid Tryd.prog 4000 os).forCall (fun _ _ => 0) ⟨#[], args, []⟩).memory :=
  laidMetH_of_parts3 (fuel := 8) (laidMet_of_run' 8 (by kernel_rfl) (by kernel_rfl)) (by kernel_rfl) (by kernel_rfl)
open Go.Proofs.YtajnhlkkbhobiaaDoor.Reg
theorem of_laid {W : World} (h : laidMetH Tryd.prog laidL W) : (gl 4 (tab_4.flatMap en_4)).ok W (fun _ => False) ∧ (gl 5 (tab_5.flatMap en_5)).ok W (fun _ => False) ∧ (gl 2 (tab_2.flatMap en_2)).ok W (fun _ => False) := by
  rw [MakeChecks.laidMetH_plain _ _ _ (by kernel_rfl)] at h
  obtain ⟨ps, ⟨g0, t0, cs0, f0, p0, q0, hg0, ht0, hv0, hd0, ⟨g1, t1, cs1, f1, p1, q1, hg1, ht1, hv1, hd1, ⟨g2, t2, cs2, f2, p2, q2, hg2, ht2, hv2, hd2, _, _⟩, _⟩, _⟩, _, _⟩ := h
  obtain rfl := Option.some.inj ((show Tryd.prog.globalNamed "math/bits.deBruijn32tab" = some 4 by kernel_rfl).symm.trans hg0)
  obtain rfl := Option.some.inj ((show (Tryd.prog.globals[4]?).map (·.type) = some 126 by kernel_rfl).symm.trans ht0)
  have hc0 : cs0.toList = tab_4.flatMap en_4 := tab_cells (tab := tab_4) Tryd.underlying126 (Opd.int Tryd.underlying5 (by kernel_rfl)) (by kernel_rfl) hd0 (by kernel_rfl)
  obtain rfl := Option.some.inj ((show Tryd.prog.globalNamed "math/bits.deBruijn64tab" = some 5 by kernel_rfl).symm.trans hg1)
  obtain rfl := Option.some.inj ((show (Tryd.prog.globals[5]?).map (·.type) = some 127 by kernel_rfl).symm.trans ht1)
  have hc1 : cs1.toList = tab_5.flatMap en_5 := tab_cells (tab := tab_5) Tryd.underlying127 (Opd.int Tryd.underlying5 (by kernel_rfl)) (by kernel_rfl) hd1 (by kernel_rfl)
  obtain rfl := Option.some.inj ((show Tryd.prog.globalNamed "internal/strconv.uint64pow10" = some 2 by kernel_rfl).symm.trans hg2)
  obtain rfl := Option.some.inj ((show (Tryd.prog.globals[2]?).map (·.type) = some 121 by kernel_rfl).symm.trans ht2)
  have hc2 : cs2.toList = tab_2.flatMap en_2 := tab_cells (tab := tab_2) Tryd.underlying121 (Opd.int Tryd.underlying107 (by kernel_rfl)) (by kernel_rfl) hd2 (by kernel_rfl)
  exact ⟨gl_of_var hg0 hv0 hc0 (by kernel_rfl), gl_of_var hg1 hv1 hc1 (by kernel_rfl), gl_of_var hg2 hv2 hc2 (by kernel_rfl)⟩
set_option maxRecDepth 100000 in
theorem lifted (os : Os) (started : os.Started) (H : Type) (enc : TypeId × Value → H) :
    ReturnsInHanded {} Tryd.checked os 9 .any (fun w args => (Rows.regsTurnedSpec.pre enc Tryd.prog Tryd.f9 Rows.regsTurnedRow.domain false w args ∧ laidMetH Tryd.prog laidL w) ∧ sizedMet enc Tryd.prog Tryd.f9 (OpenSpec.ofChange Rows.regsTurnedSpec) false w args) (Rows.regsTurnedSpec.post enc Tryd.prog Tryd.f9 false true false false) := by
  refine returnsInHanded_of_change_and (C := Tryd.checked) (X := (fun w _ => laidMetH Tryd.prog laidL w)) (fun _ _ _ hh h => h.of_heap hh) own started (by kernel_rfl) Tryd.func9
    (ChangeSpec.witness_shaped (enc := enc) (C := Tryd.checked) (os := os) (X := (fun w _ => laidMetH Tryd.prog laidL w)) false (World.doorLaid Tryd.prog 4000 os) #[.agg #[.int .u16 0, .int .u16 0, .int .u16 0, .int .u16 0, .int .u16 0, .int .u16 0, .int .u16 0, .int .u16 0, .int .u16 0, .int .u16 0, .int .u16 0, .int .u16 0, .int .u16 0, .int .u8 0, .int .u8 0, .bool false, .bool false, .bool false, .bool false, .int .i64 0], .int .i64 0, .int .i64 0] 8 rfl (World.shaped_of_RefB (by kernel_rfl) (by kernel_rfl)) (by kernel_rfl) (by kernel_rfl) (by kernel_rfl) (door_met os _)) ?_
  intro W base args ds gs before hval0 hW hcnd hsz0 hL _
  have hsz : (DataW.weightsEach Tryd.prog (Tryd.f9.params.toList ++ Rows.regsTurnedSpec.plain.varTypes Tryd.prog) (ds ++ gs)).all (· ≤ reachBytes) = true := hsz0
  have hval : ∀ (j : Nat) t v, Tryd.f9.params[j]? = some t → args[j]? = some v → Value.okWide Tryd.prog W .any base t v := hval0
  have hW' := hW
  obtain ⟨p, q, hA0, hV, rfl, hfz, hnd⟩ := hW
  have hA : DataW.TrodAll enc Tryd.prog W 0 (fun _ => true) true Tryd.f9.params.toList args.toList ds p := hA0
  rw [Tryd.params9] at hA hval hsz
  obtain ⟨v0, vs0, d0, ds0, p0, q0, hargs, rfl, rfl, h0, r0⟩ := trodAll_cons hA
  obtain ⟨v1, vs1, d1, ds1, p1, q1, rfl, rfl, rfl, h1, r1⟩ := trodAll_cons r0
  obtain ⟨v2, vs2, d2, ds2, p2, q2, rfl, rfl, rfl, h2, r2⟩ := trodAll_cons r1
  obtain ⟨rfl, rfl, rfl⟩ := trodAll_nil r2
  obtain rfl : args = #[v0, v1, v2] := by cases args; simp_all
  obtain ⟨rfl, rfl⟩ := trodVars_none hV
  have k0 := h0
  have lt0 := Trod_lt h0
  obtain ⟨cs0, rfl, _⟩ := okWide_struct Tryd.underlying46 (hval 0 46 v0 rfl rfl)
  obtain ⟨a0, ha0, w0⟩ := Opn.get (Opn.struct Tryd.underlying46 (by kernel_rfl) (OpnL.cons (o := 0) (o2 := 1) (by kernel_rfl) (Opn.int Tryd.underlying22 (by kernel_rfl)) (by kernel_rfl) (OpnL.cons (o := 1) (o2 := 2) (by kernel_rfl) (Opn.int Tryd.underlying22 (by kernel_rfl)) (by kernel_rfl) (OpnL.cons (o := 2) (o2 := 3) (by kernel_rfl) (Opn.int Tryd.underlying22 (by kernel_rfl)) (by kernel_rfl) (OpnL.cons (o := 3) (o2 := 4) (by kernel_rfl) (Opn.int Tryd.underlying22 (by kernel_rfl)) (by kernel_rfl) (OpnL.cons (o := 4) (o2 := 5) (by kernel_rfl) (Opn.int Tryd.underlying22 (by kernel_rfl)) (by kernel_rfl) (OpnL.cons (o := 5) (o2 := 6) (by kernel_rfl) (Opn.int Tryd.underlying22 (by kernel_rfl)) (by kernel_rfl) (OpnL.cons (o := 6) (o2 := 7) (by kernel_rfl) (Opn.int Tryd.underlying22 (by kernel_rfl)) (by kernel_rfl) (OpnL.cons (o := 7) (o2 := 8) (by kernel_rfl) (Opn.int Tryd.underlying22 (by kernel_rfl)) (by kernel_rfl) (OpnL.cons (o := 8) (o2 := 9) (by kernel_rfl) (Opn.int Tryd.underlying22 (by kernel_rfl)) (by kernel_rfl) (OpnL.cons (o := 9) (o2 := 10) (by kernel_rfl) (Opn.int Tryd.underlying22 (by kernel_rfl)) (by kernel_rfl) (OpnL.cons (o := 10) (o2 := 11) (by kernel_rfl) (Opn.int Tryd.underlying22 (by kernel_rfl)) (by kernel_rfl) (OpnL.cons (o := 11) (o2 := 12) (by kernel_rfl) (Opn.int Tryd.underlying22 (by kernel_rfl)) (by kernel_rfl) (OpnL.cons (o := 12) (o2 := 13) (by kernel_rfl) (Opn.int Tryd.underlying22 (by kernel_rfl)) (by kernel_rfl) (OpnL.cons (o := 13) (o2 := 14) (by kernel_rfl) (Opn.int Tryd.underlying5 (by kernel_rfl)) (by kernel_rfl) (OpnL.cons (o := 14) (o2 := 15) (by kernel_rfl) (Opn.int Tryd.underlying5 (by kernel_rfl)) (by kernel_rfl) (OpnL.cons (o := 15) (o2 := 16) (by kernel_rfl) (Opn.bool Tryd.underlying4 (by kernel_rfl)) (by kernel_rfl) (OpnL.cons (o := 16) (o2 := 17) (by kernel_rfl) (Opn.bool Tryd.underlying4 (by kernel_rfl)) (by kernel_rfl) (OpnL.cons (o := 17) (o2 := 18) (by kernel_rfl) (Opn.bool Tryd.underlying4 (by kernel_rfl)) (by kernel_rfl) (OpnL.cons (o := 18) (o2 := 19) (by kernel_rfl) (Opn.bool Tryd.underlying4 (by kernel_rfl)) (by kernel_rfl) (OpnL.one (o := 19) (by kernel_rfl) (Opn.int Tryd.underlying3 (by kernel_rfl))))))))))))))))))))))) hsz 0 rfl rfl h0
  obtain ⟨_, _, hcs0, rfl, ⟨_, _, rfl, rfl, ⟨_, _, rfl, rfl, ⟨_, _, rfl, rfl, ⟨_, _, rfl, rfl, ⟨_, _, rfl, rfl, ⟨_, _, rfl, rfl, ⟨_, _, rfl, rfl, ⟨_, _, rfl, rfl, ⟨_, _, rfl, rfl, ⟨_, _, rfl, rfl, ⟨_, _, rfl, rfl, ⟨_, _, rfl, rfl, ⟨_, _, rfl, rfl, ⟨_, _, rfl, rfl, ⟨_, _, rfl, rfl, ⟨_, _, rfl, rfl, ⟨_, _, rfl, rfl, ⟨_, _, rfl, rfl, rfl⟩⟩⟩⟩⟩⟩⟩⟩⟩⟩⟩⟩⟩⟩⟩⟩⟩⟩⟩ := ha0
  obtain rfl : cs0 = #[.int .u16 a0.1, .int .u16 a0.2.1, .int .u16 a0.2.2.1, .int .u16 a0.2.2.2.1, .int .u16 a0.2.2.2.2.1, .int .u16 a0.2.2.2.2.2.1, .int .u16 a0.2.2.2.2.2.2.1, .int .u16 a0.2.2.2.2.2.2.2.1, .int .u16 a0.2.2.2.2.2.2.2.2.1, .int .u16 a0.2.2.2.2.2.2.2.2.2.1, .int .u16 a0.2.2.2.2.2.2.2.2.2.2.1, .int .u16 a0.2.2.2.2.2.2.2.2.2.2.2.1, .int .u16 a0.2.2.2.2.2.2.2.2.2.2.2.2.1, .int .u8 a0.2.2.2.2.2.2.2.2.2.2.2.2.2.1, .int .u8 a0.2.2.2.2.2.2.2.2.2.2.2.2.2.2.1, .bool a0.2.2.2.2.2.2.2.2.2.2.2.2.2.2.2.1, .bool a0.2.2.2.2.2.2.2.2.2.2.2.2.2.2.2.2.1, .bool a0.2.2.2.2.2.2.2.2.2.2.2.2.2.2.2.2.2.1, .bool a0.2.2.2.2.2.2.2.2.2.2.2.2.2.2.2.2.2.2.1, .int .i64 a0.2.2.2.2.2.2.2.2.2.2.2.2.2.2.2.2.2.2.2] := Array.ext' hcs0
  have k1 := h1
  have lt1 := Trod_lt h1
  obtain ⟨a1, rfl, rfl, rfl, w1⟩ := open_int Tryd.underlying3 (hval 1 3 v1 rfl rfl) h1
  have k2 := h2
  have lt2 := Trod_lt h2
  obtain ⟨a2, rfl, rfl, rfl, w2⟩ := open_int Tryd.underlying3 (hval 2 3 v2 rfl rfl) h2
  clear hA0 hval0 hsz0 hsz
  obtain ⟨K, hK⟩ := Pure.RegsTurned a0 a1 a2 w0 w1 w2
  refine (Go.Proofs.YtajnhlkkbhobiaaDoor.Reg.charabanclaw11_RegsTurned_9_ok K (fun _ => False) W a0.1 a0.2.1 a0.2.2.1 a0.2.2.2.1 a0.2.2.2.2.1 a0.2.2.2.2.2.1 a0.2.2.2.2.2.2.1 a0.2.2.2.2.2.2.2.1 a0.2.2.2.2.2.2.2.2.1 a0.2.2.2.2.2.2.2.2.2.1 a0.2.2.2.2.2.2.2.2.2.2.1 a0.2.2.2.2.2.2.2.2.2.2.2.1 a0.2.2.2.2.2.2.2.2.2.2.2.2.1 a0.2.2.2.2.2.2.2.2.2.2.2.2.2.1 a0.2.2.2.2.2.2.2.2.2.2.2.2.2.2.1 a0.2.2.2.2.2.2.2.2.2.2.2.2.2.2.2.1 a0.2.2.2.2.2.2.2.2.2.2.2.2.2.2.2.2.1 a0.2.2.2.2.2.2.2.2.2.2.2.2.2.2.2.2.2.1 a0.2.2.2.2.2.2.2.2.2.2.2.2.2.2.2.2.2.2.1 a0.2.2.2.2.2.2.2.2.2.2.2.2.2.2.2.2.2.2.2 a1 a2 (fun _ hf => hf.elim) (of_laid hL).2.2 (of_laid hL).1 (of_laid hL).2.1 hK).mono fun e W' ⟨he, bel⟩ => ?_
  subst he
  exact ⟨_, rfl, _, _, _, [], _, [], hW', trodAll_mk1 (shut_bool Tryd.underlying4 _), (trodAll_cons_mk (Below.trod laidOut (by kernel_rfl) (of_decide_eq_true (by kernel_rfl)) k0 bel lt0) (trodAll_cons_mk (Below.trod laidOut (by kernel_rfl) (of_decide_eq_true (by kernel_rfl)) k1 bel lt1) (trodAll_cons_mk (Below.trod laidOut (by kernel_rfl) (of_decide_eq_true (by kernel_rfl)) k2 bel lt2) trodAll_mk0))), rfl, bel.frame _, fun h => by cases h⟩
theorem over : Rows.regsTurnedRow.holds Tryd.pinned (OpenSpec.ofChange Rows.regsTurnedSpec) :=
  OpenClaim.holds_of_wide 9 Tryd.f9 rfl rfl rfl rfl rfl rfl rfl ⟨rfl, rfl, rfl, rfl, rfl⟩ rfl rfl rfl rfl rfl (by kernel_rfl) Tryd.func9 (by kernel_rfl)
    (of_decide_eq_true (by kernel_rfl)) (by unfold Func.isWrapper; first | (rw [if_pos (by decide +kernel)]; kernel_rfl) | (rw [if_neg (by decide +kernel)]; exact ⟨rfl, rfl⟩))
    (fun os started H enc _ => lifted os started H enc)
theorem proved : Rows.RegsTurnedCardSaid :=
  Claim7.holds_tied_plain_at .later [] [.data, .data, .data] true (true, "873725cb206c0239a36f2d522ac3b159640d7da9d5e026b8bf284058e880b64f") false
    over (fun _ h => by cases h) (by kernel_rfl) (fun _ h => by cases h) regsTurned_row_tie rfl ⟨rfl, rfl⟩ (by kernel_rfl) rfl
    (fun f fn hf hfn => by
      obtain rfl : f = 9 := Option.some.inj ((show Tryd.prog.funcNamed "charabanc/charabanclaw11.RegsTurned" = some 9 by kernel_rfl).symm.trans hf) |>.symm
      obtain rfl : fn = Tryd.f9 := (Option.some.inj (Tryd.func9.symm.trans hfn)).symm
      exact ⟨by kernel_rfl, fun j t ht => by
        rw [Tryd.params9] at ht
        have hm : t ∈ ([46, 3, 3] : List Nat) := by simpa using Array.mem_of_getElem? ht
        have ha : ([46, 3, 3] : List Nat).all (fun t => !(Tryd.prog.wantsStandIn t)) = true := by kernel_rfl
        exact (show Tryd.prog.wantsStandIn t = false by simpa using List.all_eq_true.1 ha t hm)⟩)
    (by kernel_rfl)
#print axioms proved
end Go.Proofs.YtajnhlkkbhobiaaDoor.regsTurned
namespace Go.Proofs.YtajnhlkkbhobiaaDoor
/-- The row, under a short name, for the claim. -/
theorem regsTurned_holds : Rows.RegsTurnedCardSaid := regsTurned.proved
end Go.Proofs.YtajnhlkkbhobiaaDoor
