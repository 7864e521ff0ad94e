/- Functions of the program as plain Lean functions, each with the proof that the call comes to it; written by wip/eng.py. -/
import Derived.Test.YtmcdkmakjjlcnaaDoorTim3
set_option linter.unusedVariables false
set_option linter.unusedSimpArgs false
set_option maxHeartbeats 4000000
namespace Go.Proofs.YtmcdkmakjjlcnaaDoor.Tim
open Go.RowKit Go.Eng
/-! ### charabanc/charabancref10.Table (function 16) -/
section
def charabancref10_Table_16.post (M0 : Nat → Prop) (w0 : World) (r : (List Int)) : Ending → World → Prop := fun e w => e = .returned (.agg (List.flatMap (fun (x : Int) => ([.int .i64 x] : List Value)) r).toArray) ∧ Below w0.heap.size w0 w
def charabancref10_Table_16.l0 (K : Nat) : Nat → (List Int) → Int → Option (List Int)
  | 0, _, _ => none
  | k + 1, t13, t14 => cond (decide (t14 < 256)) ((charabancref10_row_23.f K (IntKind.wrap .i64 (Int.tdiv t14 16))).bind fun t20 => cond (Nat.beq t20.length 16 && inR (Int.tmod t14 16) t20.length) (cond (inR t14 256) (cond (inR t14 t13.length) (charabancref10_Table_16.l0 K k (stD t13 t14 (rdD t20 (Int.tmod t14 16))) (IntKind.wrap .i64 (t14 + 1))) none) none) none) (some t13)
set_option maxRecDepth 100000 in
theorem charabancref10_Table_16.l0_ok (K : Nat) (M0 : Nat → Prop) (w0 : World) (b11 : Nat) (b12 : Nat) (R : Ending → World → Prop) (x : (List Int)) (hk0 : ∀ (t27 : List Int) (w1 : World), x = t27 → Holds M0 w0 w1 [box b11 31 (List.flatMap (fun (x : Int) => ([.int .i64 x] : List Value)) (List.replicate 256 0)), box b12 31 (List.flatMap (fun (x : Int) => ([.int .i64 x] : List Value)) t27)] → RunsI F16 [.c 19] [(0, .pointer (some ⟨b11, 0, none⟩)), (1, .pointer (some ⟨b12, 0, none⟩))] w1 R) :
    ∀ (k : Nat) (t13 : List Int) (t14 : Int) (w : World), charabancref10_Table_16.l0 K k t13 t14 = some x → Holds M0 w0 w [box b11 31 (List.flatMap (fun (x : Int) => ([.int .i64 x] : List Value)) (List.replicate 256 0)), box b12 31 (List.flatMap (fun (x : Int) => ([.int .i64 x] : List Value)) t13)] → RunsI F16 [.c 9, .lp 9, .blk 0, .c 19] [(0, .pointer (some ⟨b11, 0, none⟩)), (1, .pointer (some ⟨b12, 0, none⟩)), (2, .int .i64 t14)] w R := by
  intro k
  induction k with
  | zero => intro t13 t14 w h hH; exact absurd h (by simp [charabancref10_Table_16.l0])
  | succ k ih =>
    intro t13 t14 w h hH
    rw [charabancref10_Table_16.l0.eq_2] at h
    refine RunsI.go 1 [.c 10, .c 15, .lp 9, .blk 0, .c 19] (by kernel_rfl) ?_
    refine RunsI.go 1 [.c 11, .c 12, .c 15, .lp 9, .blk 0, .c 19] (by kernel_rfl) ?_
    refine RunsI.region (by kernel_rfl) ?_
    refine RegI.pure 2 [0, 1, 2, 4] [(0, .pointer (some ⟨b11, 0, none⟩)), (1, .pointer (some ⟨b12, 0, none⟩)), (2, .int .i64 t14), (4, .bool (decide (t14 < 256)))] (by kernel_rfl) ?_
    refine RegI.done (by kernel_rfl) ?_
    rcases of_cond h with ⟨hc15, h⟩ | ⟨hc15, h⟩
    · skip
      refine RunsI.fix 4 true hc15 (by kernel_rfl) (by kernel_rfl) ?_
      refine RunsI.cond true 13 (by kernel_rfl) ?_
      refine RunsI.go 1 [.c 15, .lp 9, .blk 0, .c 19] (by kernel_rfl) ?_
      refine RunsI.go 2 [.c 17, .blk 1, .c 18, .lp 9, .blk 0, .c 19] (by kernel_rfl) ?_
      refine RunsI.region (by kernel_rfl) ?_
      refine RegI.pure 3 [0, 1, 2, 7, 9] [(0, .pointer (some ⟨b11, 0, none⟩)), (1, .pointer (some ⟨b12, 0, none⟩)), (2, .int .i64 t14), (7, .int .i64 t14), (9, .int .i64 (IntKind.wrap .i64 (Int.tdiv t14 16)))] (by kernel_rfl) ?_
      obtain ⟨t20, hg19, h⟩ := of_bind h
      refine RegI.op (by kernel_rfl) (OpE.call 10 (by kernel_rfl) 23 #[.int .i64 (IntKind.wrap .i64 (Int.tdiv t14 16))] (by kernel_rfl) ((charabancref10_row_23_ok K _ w  (IntKind.wrap .i64 (Int.tdiv t14 16)) hH.old' hg19).mono ?_))
      rintro _ w16 ⟨rfl, hb17⟩
      refine ⟨_, rfl, ?_⟩
      have h18 := hH.call hb17
      refine RegI.pure 2 [0, 1, 2, 7, 10, 12] [(0, .pointer (some ⟨b11, 0, none⟩)), (1, .pointer (some ⟨b12, 0, none⟩)), (2, .int .i64 t14), (7, .int .i64 t14), (10, .agg (List.flatMap (fun (x : Int) => ([.int .i64 x] : List Value)) t20).toArray), (12, .int .i64 (Int.tmod t14 16))] (by kernel_rfl) ?_
      obtain ⟨hc21, h⟩ := of_cond0 h
      refine RegI.op (by kernel_rfl) (OpE.run 13 (by kernel_rfl) (run_indexTab (T0 := 46) (en := (fun (x : Int) => ([.int .i64 x] : List Value))) (tab := t20) (len := 16) (sz := 1) (j := (Int.tmod t14 16)) (v := .int .i64 (rdD t20 (Int.tmod t14 16))) (fun _ => rfl) (by kernel_rfl) (by kernel_rfl) (Nat.eq_of_beq_eq_true (and_l hc21)) (and_r hc21) (fun _ => by kernel_rfl)) ?_)
      obtain ⟨hc22, h⟩ := of_cond0 h
      refine RegI.op (by kernel_rfl) (OpE.run 14 (by kernel_rfl) (run_idxArr (T := 31) (b := b12) (o := 0) (ix := t14) (len := 256) (s := 1) (by kernel_rfl) (by kernel_rfl) hc22) ?_)
      obtain ⟨hc23, h⟩ := of_cond0 h
      refine RegI.op (by kernel_rfl) (OpE.storeArr (en := (fun (x : Int) => ([.int .i64 x] : List Value))) 1 3 b12 1 t14 (.int .i64 (rdD t20 (Int.tmod t14 16))) (xs := t13) (rdD t20 (Int.tmod t14 16)) (o := 0 + (Int.toNat t14) * 1) h18 (by kernel_rfl) (by kernel_rfl) rfl (fun _ => rfl) (by omega) (by kernel_rfl) (by kernel_rfl) hc23 ?_)
      intro w24 h25 hk26
      refine RegI.done (by kernel_rfl) ?_
      refine RunsI.go 1 [.c 18, .lp 9, .blk 0, .c 19] (by kernel_rfl) ?_
      refine RunsI.region (by kernel_rfl) ?_
      refine RegI.pure 3 [0, 1, 2] [(0, .pointer (some ⟨b11, 0, none⟩)), (1, .pointer (some ⟨b12, 0, none⟩)), (2, .int .i64 (IntKind.wrap .i64 (t14 + 1)))] (by kernel_rfl) ?_
      refine RegI.done (by kernel_rfl) ?_
      refine RunsI.go 1 [.c 9, .lp 9, .blk 0, .c 19] (by kernel_rfl) ?_
      refine RunsI.only [0, 1, 2] [(0, .pointer (some ⟨b11, 0, none⟩)), (1, .pointer (some ⟨b12, 0, none⟩)), (2, .int .i64 (IntKind.wrap .i64 (t14 + 1)))] (by kernel_rfl) (by kernel_rfl) ?_
      exact ih (stD t13 t14 (rdD t20 (Int.tmod t14 16))) (IntKind.wrap .i64 (t14 + 1)) w24 h (h25.pick [0, 1] (by decide))
    · skip
      refine RunsI.fix 4 false hc15 (by kernel_rfl) (by kernel_rfl) ?_
      refine RunsI.cond false 14 (by kernel_rfl) ?_
      refine RunsI.go 1 [.c 19] (by kernel_rfl) ?_
      refine RunsI.only [0, 1] [(0, .pointer (some ⟨b11, 0, none⟩)), (1, .pointer (some ⟨b12, 0, none⟩))] (by kernel_rfl) (by kernel_rfl) ?_
      exact hk0 t13 w (Option.some.inj h).symm (hH.pick [0, 1] (by decide))
def charabancref10_Table_16.f (K : Nat) : Option (List Int) := (charabancref10_Table_16.l0 K K (List.replicate 256 0) 0).bind (fun t30 => cond (Nat.beq t30.length 256) (some t30) none)
set_option maxRecDepth 100000 in
theorem charabancref10_Table_16_ok (K : Nat) (M0 : Nat → Prop) (w0 : World) (ho : ∀ b, M0 b → b < w0.heap.size) {r : (List Int)} (h : charabancref10_Table_16.f K = some r) :
    Calls Tryd.prog 16 #[] w0 (charabancref10_Table_16.post M0 w0 r) := by
  unfold charabancref10_Table_16.f at h
  have h0 : Holds M0 w0 w0 [] := Holds.start ho
  have h0 : Holds M0 w0 w0 [] := h0
  refine calls_of F16 rfl [] (by kernel_rfl) ?_
  refine RunsI.go 1 [.c 1, .c 2] (by kernel_rfl) ?_
  refine RunsI.region (by kernel_rfl) ?_
  refine RegI.op (by kernel_rfl) (OpE.box 0 31 (List.flatMap (fun (x : Int) => ([.int .i64 x] : List Value)) (List.replicate 256 0)) h0 (by kernel_rfl) (by kernel_rfl) ?_)
  intro w1 b2 h3 hb4 hn5
  refine RegI.done (by kernel_rfl) ?_
  refine RunsI.go 1 [.c 3, .c 4] (by kernel_rfl) ?_
  refine RunsI.region (by kernel_rfl) ?_
  refine RegI.op (by kernel_rfl) (OpE.box 1 31 (List.flatMap (fun (x : Int) => ([.int .i64 x] : List Value)) (List.replicate 256 0)) h3 (by kernel_rfl) (by kernel_rfl) ?_)
  intro w6 b7 h8 hb9 hn10
  refine RegI.done (by kernel_rfl) ?_
  refine RunsI.go 2 [.c 6, .c 7, .c 19] (by kernel_rfl) ?_
  refine RunsI.region (by kernel_rfl) ?_
  refine RegI.pure 1 [0, 1, 2] [(0, .pointer (some ⟨b2, 0, none⟩)), (1, .pointer (some ⟨b7, 0, none⟩)), (2, .int .i64 0)] (by kernel_rfl) ?_
  refine RegI.done (by kernel_rfl) ?_
  refine RunsI.go 2 [.c 9, .lp 9, .blk 0, .c 19] (by kernel_rfl) ?_
  obtain ⟨x28, hx29, h⟩ := of_bind h
  refine RunsI.only [0, 1, 2] [(0, .pointer (some ⟨b2, 0, none⟩)), (1, .pointer (some ⟨b7, 0, none⟩)), (2, .int .i64 0)] (by kernel_rfl) (by kernel_rfl) ?_
  refine charabancref10_Table_16.l0_ok K M0 w0 b2 b7 _ x28 ?_ K (List.replicate 256 0) 0 w6 hx29 (h8.pick [0, 1] (by decide))
  · intro t30 w32 hq37 h31
    (try rw [hq37] at h)
    refine RunsI.go 1 [.c 20, .c 21] (by kernel_rfl) ?_
    refine RunsI.region (by kernel_rfl) ?_
    obtain ⟨hc33, h⟩ := of_cond0 h
    refine RegI.op (by kernel_rfl) (OpE.loadBox 15 1 31 b7 0 (.agg (List.flatMap (fun (x : Int) => ([.int .i64 x] : List Value)) t30).toArray) h31 (by kernel_rfl) (by kernel_rfl) rfl (loadV_arr (en := (fun (x : Int) => ([.int .i64 x] : List Value))) (len := 256) (sz := 1) (m := 256) (fun _ => rfl) (by kernel_rfl) (by kernel_rfl) rfl hc33) ?_)
    refine RegI.op (by kernel_rfl) (OpE.storeArrAll (en := (fun (x : Int) => ([.int .i64 x] : List Value))) 0 31 b2 256 1 256 t30 h31 (by kernel_rfl) (by kernel_rfl) rfl (fun _ => rfl) (fun _ => rfl) (by kernel_rfl) rfl (flat_m (sz := 1) (len := 256) (fun _ => rfl) (by kernel_rfl) rfl) hc33 ?_)
    intro w34 h35 hk36
    refine RegI.done (by kernel_rfl) ?_
    refine RunsI.toRet (by kernel_rfl) ?_
    refine RetI.valW [.cell 0 31] [.agg (List.flatMap (fun (x : Int) => ([.int .i64 x] : List Value)) t30).toArray] (.agg (List.flatMap (fun (x : Int) => ([.int .i64 x] : List Value)) t30).toArray) (by kernel_rfl) (ResAt.box 0 31 b2 0 h35 (by kernel_rfl) (by kernel_rfl) rfl (loadV_arr (en := (fun (x : Int) => ([.int .i64 x] : List Value))) (len := 256) (sz := 1) (m := 256) (fun _ => rfl) (by kernel_rfl) (by kernel_rfl) rfl hc33) rfl) (by kernel_rfl) ?_
    obtain rfl := Option.some.inj h
    exact ⟨rfl, h35.below⟩
end
end Go.Proofs.YtmcdkmakjjlcnaaDoor.Tim
