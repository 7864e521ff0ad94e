/- The row of the statement HexfileTurned, out of its Pure and its told function; own work. -/
import Derived.Lay
import Derived.Test.YtilgjfckgkkfmaaDoorRows
import Derived.Test.YtilgjfckgkkfmaaDoorHxHexfileTurned
import Derived.Test.YtilgjfckgkkfmaaDoorPureHexfileTurned
import Derived.Test.YtilgjfckgkkfmaaDoorEngLaid
import Derived.Handed
import Derived.LaidMore
import Derived.LaidHandle
import Derived.Test.YtilgjfckgkkfmaaDoorCards
import Derived.Test.YtilgjfckgkkfmaaDoorTie
import Derived.SevenTiedAt
namespace Go.Proofs.YtilgjfckgkkfmaaDoor.hexfileTurned
open Go.ChangeShapes Go.WideShapes Go.ChangeAt Go.RowKit Go.Eng
open Go.ChangeMaps (open_string shut_string)
set_option linter.unusedVariables false
set_option linter.unusedSimpArgs false
theorem own : ownKnob Tryd.prog.godebug = none := by kernel_rfl
theorem laidOut : laidOutB Tryd.prog = true := by kernel_rfl
open Go.Proofs.YtilgjfckgkkfmaaDoor
def laidL : List (String × DataW Unit) := [("unicode/utf8.acceptRanges", Rows.laid_unicode_utf8_acceptRanges), ("unicode/utf8.first", Rows.laid_unicode_utf8_first)]
theorem door_met (os : Os) (args : Array Value) : laidMetH Tryd.prog laidL ((World.laidAll Tryd.prog os laidL).forCall (fun _ _ => 0) ⟨#[], args, []⟩).memory :=
  by rw [MakeChecks.laidMetH_plain _ _ _ (by kernel_rfl)]; exact laidMet_laidAll _ (by kernel_rfl) (by kernel_rfl)
open Go.Proofs.YtilgjfckgkkfmaaDoor.Hx
theorem of_laid {W : World} (h : laidMetH Tryd.prog laidL W) : True := by
  rw [MakeChecks.laidMetH_plain _ _ _ (by kernel_rfl)] at h
  obtain ⟨ps, ⟨g0, t0, cs0, f0, p0, q0, hg0, ht0, hv0, hd0, ⟨g1, t1, cs1, f1, p1, q1, hg1, ht1, hv1, hd1, _, _⟩, _⟩, _, _⟩ := h
  exact trivial
set_option maxRecDepth 100000 in
theorem lifted (os : Os) (started : os.Started) (H : Type) (enc : TypeId × Value → H) :
    ReturnsInHanded {} Tryd.checked os 6 .any (fun w args => (Rows.hexfileTurnedSpec.pre enc Tryd.prog Tryd.f6 Rows.hexfileTurnedRow.domain false w args ∧ laidMetH Tryd.prog laidL w) ∧ sizedMet enc Tryd.prog Tryd.f6 (OpenSpec.ofChange Rows.hexfileTurnedSpec) false w args) (Rows.hexfileTurnedSpec.post enc Tryd.prog Tryd.f6 false true false false) := by
  refine returnsInHanded_of_change_and (C := Tryd.checked) (X := (fun w _ => laidMetH Tryd.prog laidL w)) (fun _ _ _ hh h => h.of_heap hh) own started (by kernel_rfl) Tryd.func6
    (ChangeSpec.witness_shaped (enc := enc) (C := Tryd.checked) (os := os) (X := (fun w _ => laidMetH Tryd.prog laidL w)) false (World.laidAll Tryd.prog os laidL) #[.agg #[.int .u8 0, .int .u16 0, .slice none 0 0], .int .i64 0, .int .u8 0] 8 rfl (World.shaped_of_ZipB (by kernel_rfl) (by kernel_rfl)) (by kernel_rfl) (by kernel_rfl) (by kernel_rfl) (door_met os _)) ?_
  intro W base args ds gs before hval0 hW hcnd hsz0 hL _
  have hsz : (DataW.weightsEach Tryd.prog (Tryd.f6.params.toList ++ Rows.hexfileTurnedSpec.plain.varTypes Tryd.prog) (ds ++ gs)).all (· ≤ reachBytes) = true := hsz0
  have hval : ∀ (j : Nat) t v, Tryd.f6.params[j]? = some t → args[j]? = some v → Value.okWide Tryd.prog W .any base t v := hval0
  have hW' := hW
  obtain ⟨p, q, hA0, hV, rfl, hfz, hnd⟩ := hW
  have hA : DataW.TrodAll enc Tryd.prog W 0 (fun _ => true) true Tryd.f6.params.toList args.toList ds p := hA0
  rw [Tryd.params6] at hA hval hsz
  obtain ⟨v0, vs0, d0, ds0, p0, q0, hargs, rfl, rfl, h0, r0⟩ := trodAll_cons hA
  obtain ⟨v1, vs1, d1, ds1, p1, q1, rfl, rfl, rfl, h1, r1⟩ := trodAll_cons r0
  obtain ⟨v2, vs2, d2, ds2, p2, q2, rfl, rfl, rfl, h2, r2⟩ := trodAll_cons r1
  obtain ⟨rfl, rfl, rfl⟩ := trodAll_nil r2
  obtain rfl : args = #[v0, v1, v2] := by cases args; simp_all
  obtain ⟨rfl, rfl⟩ := trodVars_none hV
  have k0 := h0
  have lt0 := Trod_lt h0
  obtain ⟨cs0, rfl, _⟩ := okWide_struct Tryd.underlying25 (hval 0 25 v0 rfl rfl)
  obtain ⟨a0, ha0, w0⟩ := Opn.get (Opn.struct Tryd.underlying25 (by kernel_rfl) (OpnL.cons (o := 0) (o2 := 1) (by kernel_rfl) (Opn.int Tryd.underlying5 (by kernel_rfl)) (by kernel_rfl) (OpnL.cons (o := 1) (o2 := 2) (by kernel_rfl) (Opn.int Tryd.underlying22 (by kernel_rfl)) (by kernel_rfl) (OpnL.one (o := 2) (by kernel_rfl) (Opn.slice (B := 1) Tryd.underlying23 (by kernel_rfl) (by kernel_rfl) (by decide) (Opn.int Tryd.underlying5 (by kernel_rfl))))))) hsz 0 rfl rfl h0
  obtain ⟨_, _, hcs0, rfl, ⟨_, _, rfl, rfl, ⟨v0_0, rfl, e0_0⟩⟩⟩ := ha0
  obtain rfl : cs0 = #[.int .u8 a0.1, .int .u16 a0.2.1, v0_0] := Array.ext' hcs0
  obtain ⟨Ae0_0, ce0_0, rfl⟩ := e0_0.form
  have k1 := h1
  have lt1 := Trod_lt h1
  obtain ⟨a1, rfl, rfl, rfl, w1⟩ := open_int Tryd.underlying3 (hval 1 3 v1 rfl rfl) h1
  have k2 := h2
  have lt2 := Trod_lt h2
  obtain ⟨a2, rfl, rfl, rfl, w2⟩ := open_int Tryd.underlying5 (hval 2 5 v2 rfl rfl) h2
  clear hA0 hval0 hsz0 hsz
  obtain ⟨K, hK⟩ := Pure.HexfileTurned a0 a1 a2 w0 w1 w2
  refine (Go.Proofs.YtilgjfckgkkfmaaDoor.Hx.charabanclaw33_HexfileTurned_6_ok K (fun _ => False) W Ae0_0 ce0_0 a0.1 a0.2.1 a0.2.2 a1 a2 (fun _ hf => hf.elim) e0_0 hK).mono fun e W' ⟨he, bel⟩ => ?_
  subst he
  exact ⟨_, rfl, _, _, _, [], _, [], hW', trodAll_mk1 (shut_bool Tryd.underlying4 _), (trodAll_cons_mk (Below.trod laidOut (by kernel_rfl) (of_decide_eq_true (by kernel_rfl)) k0 bel lt0) (trodAll_cons_mk (Below.trod laidOut (by kernel_rfl) (of_decide_eq_true (by kernel_rfl)) k1 bel lt1) (trodAll_cons_mk (Below.trod laidOut (by kernel_rfl) (of_decide_eq_true (by kernel_rfl)) k2 bel lt2) trodAll_mk0))), rfl, bel.frame _, fun h => by cases h⟩
theorem over : Rows.hexfileTurnedRow.holds Tryd.pinned (OpenSpec.ofChange Rows.hexfileTurnedSpec) :=
  OpenClaim.holds_of_wide 6 Tryd.f6 rfl rfl rfl rfl rfl rfl rfl ⟨rfl, rfl, rfl, rfl, rfl⟩ rfl rfl rfl rfl rfl (by kernel_rfl) Tryd.func6 (by kernel_rfl)
    (of_decide_eq_true (by kernel_rfl)) (by unfold Func.isWrapper; first | (rw [if_pos (by decide +kernel)]; kernel_rfl) | (rw [if_neg (by decide +kernel)]; exact ⟨rfl, rfl⟩))
    (fun os started H enc _ => lifted os started H enc)
theorem proved : Rows.HexfileTurnedCardSaid :=
  Claim7.holds_tied_plain_at .later [] [.data, .pinned] true (true, "bae07574ce7423b8a9158d78d6001c8957be3969313c65d27a1719d75f2118ac") false
    over (fun _ h => by cases h) (by kernel_rfl) (fun _ h => by cases h) hexfileTurned_row_tie rfl ⟨rfl, rfl⟩ (by kernel_rfl) rfl
    (fun f fn hf hfn => by
      obtain rfl : f = 6 := Option.some.inj ((show Tryd.prog.funcNamed "charabanc/charabanclaw33.HexfileTurned" = some 6 by kernel_rfl).symm.trans hf) |>.symm
      obtain rfl : fn = Tryd.f6 := (Option.some.inj (Tryd.func6.symm.trans hfn)).symm
      exact ⟨by kernel_rfl, fun j t ht => by
        rw [Tryd.params6] at ht
        have hm : t ∈ ([25, 3, 5] : List Nat) := by simpa using Array.mem_of_getElem? ht
        have ha : ([25, 3, 5] : List Nat).all (fun t => !(Tryd.prog.wantsStandIn t)) = true := by kernel_rfl
        exact (show Tryd.prog.wantsStandIn t = false by simpa using List.all_eq_true.1 ha t hm)⟩)
    (by kernel_rfl)
#print axioms proved
end Go.Proofs.YtilgjfckgkkfmaaDoor.hexfileTurned
namespace Go.Proofs.YtilgjfckgkkfmaaDoor
/-- The row, under a short name, for the claim. -/
theorem hexfileTurned_holds : Rows.HexfileTurnedCardSaid := hexfileTurned.proved
end Go.Proofs.YtilgjfckgkkfmaaDoor
