/- Functions of the program as plain Lean functions, each with the proof that the call comes to it; written by wip/eng.py. -/
import Derived.Test.YtmcdkmakjjlcnaaDoorTim2
set_option linter.unusedVariables false
set_option linter.unusedSimpArgs false
set_option maxHeartbeats 4000000
namespace Go.Proofs.YtmcdkmakjjlcnaaDoor.Tim
open Go.RowKit Go.Eng
/-! ### charabanc/charabancref10.row (function 23) -/
section
def charabancref10_row_23.post (M0 : Nat → Prop) (w0 : World) (r : (List Int)) : Ending → World → Prop := fun e w => e = .returned (.agg (List.flatMap (fun (x : Int) => ([.int .i64 x] : List Value)) r).toArray) ∧ Below w0.heap.size w0 w
def charabancref10_row_23.f (K : Nat) (p0 : Int) : Option (List Int) := cond (p0 == 0) (some ([4, 10, 7, 6, 4, 4, 7, 4, 4, 11, 7, 6, 4, 4, 7, 4] : List Int)) (cond (p0 == 1) (some ([8, 10, 7, 6, 4, 4, 7, 4, 12, 11, 7, 6, 4, 4, 7, 4] : List Int)) (cond (p0 == 2) (some ([7, 10, 16, 6, 4, 4, 7, 4, 7, 11, 16, 6, 4, 4, 7, 4] : List Int)) (cond (p0 == 3) (some ([7, 10, 13, 6, 11, 11, 10, 4, 7, 11, 13, 6, 4, 4, 7, 4] : List Int)) (cond (p0 == 7) (some ([7, 7, 7, 7, 7, 7, 4, 7, 4, 4, 4, 4, 4, 4, 7, 4] : List Int)) (cond (p0 == 12) (some ([5, 10, 10, 10, 10, 11, 7, 11, 5, 10, 10, 4, 10, 17, 7, 11] : List Int)) (cond (p0 == 13) (some ([5, 10, 10, 11, 10, 11, 7, 11, 5, 4, 10, 11, 10, 4, 7, 11] : List Int)) (cond (p0 == 14) (some ([5, 10, 10, 19, 10, 11, 7, 11, 5, 4, 10, 4, 10, 4, 7, 11] : List Int)) (cond (p0 == 15) (some ([5, 10, 10, 4, 10, 11, 7, 11, 5, 6, 10, 4, 10, 4, 7, 11] : List Int)) (some ([4, 4, 4, 4, 4, 4, 7, 4, 4, 4, 4, 4, 4, 4, 7, 4] : List Int))))))))))
set_option maxRecDepth 100000 in
theorem charabancref10_row_23_ok (K : Nat) (M0 : Nat → Prop) (w0 : World) (p0 : Int) (ho : ∀ b, M0 b → b < w0.heap.size) {r : (List Int)} (h : charabancref10_row_23.f K p0 = some r) :
    Calls Tryd.prog 23 #[.int .i64 p0] w0 (charabancref10_row_23.post M0 w0 r) := by
  unfold charabancref10_row_23.f at h
  have h0 : Holds M0 w0 w0 [] := Holds.start ho
  have h0 : Holds M0 w0 w0 [] := h0
  refine calls_of F23 rfl [.int .i64 p0] (by kernel_rfl) ?_
  refine RunsI.go 1 [.c 1, .c 2] (by kernel_rfl) ?_
  refine RunsI.region (by kernel_rfl) ?_
  refine RegI.op (by kernel_rfl) (OpE.box 2 46 (List.flatMap (fun (x : Int) => ([.int .i64 x] : List Value)) (List.replicate 16 0)) h0 (by kernel_rfl) (by kernel_rfl) ?_)
  intro w1 b2 h3 hb4 hn5
  refine RegI.done (by kernel_rfl) ?_
  refine RunsI.go 1 [.c 3, .c 4] (by kernel_rfl) ?_
  refine RunsI.region (by kernel_rfl) ?_
  refine RegI.pure 1 [0, 2, 4] [(0, .int .i64 p0), (2, .pointer (some ⟨b2, 0, none⟩)), (4, .agg (List.flatMap (fun (x : Int) => ([.int .i64 x] : List Value)) ([4, 4, 4, 4, 4, 4, 7, 4, 4, 4, 4, 4, 4, 4, 7, 4] : List Int)).toArray)] (by kernel_rfl) ?_
  refine RegI.op (by kernel_rfl) (OpE.box 3 46 (List.flatMap (fun (x : Int) => ([.int .i64 x] : List Value)) (List.replicate 16 0)) h3 (by kernel_rfl) (by kernel_rfl) ?_)
  intro w6 b7 h8 hb9 hn10
  refine RegI.op (by kernel_rfl) (OpE.storeArrAll (en := (fun (x : Int) => ([.int .i64 x] : List Value))) 1 46 b7 16 1 16 ([4, 4, 4, 4, 4, 4, 7, 4, 4, 4, 4, 4, 4, 4, 7, 4] : List Int) h8 (by kernel_rfl) (by kernel_rfl) rfl (fun _ => rfl) (fun _ => rfl) (by kernel_rfl) rfl (flat_m (sz := 1) (len := 16) (fun _ => rfl) (by kernel_rfl) rfl) (by kernel_rfl) ?_)
  intro w11 h12 hk13
  refine RegI.done (by kernel_rfl) ?_
  refine RunsI.go 2 [.c 6, .c 7, .c 45] (by kernel_rfl) ?_
  refine RunsI.region (by kernel_rfl) ?_
  refine RegI.pure 1 [2, 3, 5] [(2, .pointer (some ⟨b2, 0, none⟩)), (3, .pointer (some ⟨b7, 0, none⟩)), (5, .int .i64 p0)] (by kernel_rfl) ?_
  refine RegI.done (by kernel_rfl) ?_
  refine RunsI.go 2 [.c 9, .c 10, .blk 0, .c 45] (by kernel_rfl) ?_
  refine RunsI.region (by kernel_rfl) ?_
  refine RegI.pure 2 [2, 3, 5, 6] [(2, .pointer (some ⟨b2, 0, none⟩)), (3, .pointer (some ⟨b7, 0, none⟩)), (5, .int .i64 p0), (6, .bool (p0 == 0))] (by kernel_rfl) ?_
  refine RegI.done (by kernel_rfl) ?_
  rcases of_cond h with ⟨hc14, h⟩ | ⟨hc14, h⟩
  · skip
    refine RunsI.fix 6 true hc14 (by kernel_rfl) (by kernel_rfl) ?_
    refine RunsI.cond true 11 (by kernel_rfl) ?_
    refine RunsI.region (by kernel_rfl) ?_
    refine RegI.pure 1 [2, 3, 8] [(2, .pointer (some ⟨b2, 0, none⟩)), (3, .pointer (some ⟨b7, 0, none⟩)), (8, .agg (List.flatMap (fun (x : Int) => ([.int .i64 x] : List Value)) ([4, 10, 7, 6, 4, 4, 7, 4, 4, 11, 7, 6, 4, 4, 7, 4] : List Int)).toArray)] (by kernel_rfl) ?_
    refine RegI.op (by kernel_rfl) (OpE.storeArrAll (en := (fun (x : Int) => ([.int .i64 x] : List Value))) 1 46 b7 16 1 16 ([4, 10, 7, 6, 4, 4, 7, 4, 4, 11, 7, 6, 4, 4, 7, 4] : List Int) h12 (by kernel_rfl) (by kernel_rfl) rfl (fun _ => rfl) (fun _ => rfl) (by kernel_rfl) rfl (flat_m (sz := 1) (len := 16) (fun _ => rfl) (by kernel_rfl) rfl) (by kernel_rfl) ?_)
    intro w15 h16 hk17
    refine RegI.done (by kernel_rfl) ?_
    refine RunsI.go 2 [.c 46, .c 47] (by kernel_rfl) ?_
    refine RunsI.region (by kernel_rfl) ?_
    refine RegI.op (by kernel_rfl) (OpE.loadBox 33 1 46 b7 0 (.agg (List.flatMap (fun (x : Int) => ([.int .i64 x] : List Value)) ([4, 10, 7, 6, 4, 4, 7, 4, 4, 11, 7, 6, 4, 4, 7, 4] : List Int)).toArray) h16 (by kernel_rfl) (by kernel_rfl) rfl (loadV_arr (en := (fun (x : Int) => ([.int .i64 x] : List Value))) (len := 16) (sz := 1) (m := 16) (fun _ => rfl) (by kernel_rfl) (by kernel_rfl) rfl (by kernel_rfl)) ?_)
    refine RegI.op (by kernel_rfl) (OpE.storeArrAll (en := (fun (x : Int) => ([.int .i64 x] : List Value))) 0 46 b2 16 1 16 ([4, 10, 7, 6, 4, 4, 7, 4, 4, 11, 7, 6, 4, 4, 7, 4] : List Int) h16 (by kernel_rfl) (by kernel_rfl) rfl (fun _ => rfl) (fun _ => rfl) (by kernel_rfl) rfl (flat_m (sz := 1) (len := 16) (fun _ => rfl) (by kernel_rfl) rfl) (by kernel_rfl) ?_)
    intro w50 h51 hk52
    refine RegI.done (by kernel_rfl) ?_
    refine RunsI.toRet (by kernel_rfl) ?_
    refine RetI.valW [.cell 2 46] [.agg (List.flatMap (fun (x : Int) => ([.int .i64 x] : List Value)) ([4, 10, 7, 6, 4, 4, 7, 4, 4, 11, 7, 6, 4, 4, 7, 4] : List Int)).toArray] (.agg (List.flatMap (fun (x : Int) => ([.int .i64 x] : List Value)) ([4, 10, 7, 6, 4, 4, 7, 4, 4, 11, 7, 6, 4, 4, 7, 4] : List Int)).toArray) (by kernel_rfl) (ResAt.box 0 46 b2 0 h51 (by kernel_rfl) (by kernel_rfl) rfl (loadV_arr (en := (fun (x : Int) => ([.int .i64 x] : List Value))) (len := 16) (sz := 1) (m := 16) (fun _ => rfl) (by kernel_rfl) (by kernel_rfl) rfl (by kernel_rfl)) rfl) (by kernel_rfl) ?_
    obtain rfl := Option.some.inj h
    exact ⟨rfl, h51.below⟩
  · skip
    refine RunsI.fix 6 false hc14 (by kernel_rfl) (by kernel_rfl) ?_
    refine RunsI.cond false 12 (by kernel_rfl) ?_
    refine RunsI.go 1 [.c 13, .c 14, .blk 0, .c 45] (by kernel_rfl) ?_
    refine RunsI.region (by kernel_rfl) ?_
    refine RegI.pure 2 [2, 3, 5, 9] [(2, .pointer (some ⟨b2, 0, none⟩)), (3, .pointer (some ⟨b7, 0, none⟩)), (5, .int .i64 p0), (9, .bool (p0 == 1))] (by kernel_rfl) ?_
    refine RegI.done (by kernel_rfl) ?_
    rcases of_cond h with ⟨hc18, h⟩ | ⟨hc18, h⟩
    · skip
      refine RunsI.fix 9 true hc18 (by kernel_rfl) (by kernel_rfl) ?_
      refine RunsI.cond true 15 (by kernel_rfl) ?_
      refine RunsI.region (by kernel_rfl) ?_
      refine RegI.pure 1 [2, 3, 11] [(2, .pointer (some ⟨b2, 0, none⟩)), (3, .pointer (some ⟨b7, 0, none⟩)), (11, .agg (List.flatMap (fun (x : Int) => ([.int .i64 x] : List Value)) ([8, 10, 7, 6, 4, 4, 7, 4, 12, 11, 7, 6, 4, 4, 7, 4] : List Int)).toArray)] (by kernel_rfl) ?_
      refine RegI.op (by kernel_rfl) (OpE.storeArrAll (en := (fun (x : Int) => ([.int .i64 x] : List Value))) 1 46 b7 16 1 16 ([8, 10, 7, 6, 4, 4, 7, 4, 12, 11, 7, 6, 4, 4, 7, 4] : List Int) h12 (by kernel_rfl) (by kernel_rfl) rfl (fun _ => rfl) (fun _ => rfl) (by kernel_rfl) rfl (flat_m (sz := 1) (len := 16) (fun _ => rfl) (by kernel_rfl) rfl) (by kernel_rfl) ?_)
      intro w19 h20 hk21
      refine RegI.done (by kernel_rfl) ?_
      refine RunsI.go 2 [.c 46, .c 47] (by kernel_rfl) ?_
      refine RunsI.region (by kernel_rfl) ?_
      refine RegI.op (by kernel_rfl) (OpE.loadBox 33 1 46 b7 0 (.agg (List.flatMap (fun (x : Int) => ([.int .i64 x] : List Value)) ([8, 10, 7, 6, 4, 4, 7, 4, 12, 11, 7, 6, 4, 4, 7, 4] : List Int)).toArray) h20 (by kernel_rfl) (by kernel_rfl) rfl (loadV_arr (en := (fun (x : Int) => ([.int .i64 x] : List Value))) (len := 16) (sz := 1) (m := 16) (fun _ => rfl) (by kernel_rfl) (by kernel_rfl) rfl (by kernel_rfl)) ?_)
      refine RegI.op (by kernel_rfl) (OpE.storeArrAll (en := (fun (x : Int) => ([.int .i64 x] : List Value))) 0 46 b2 16 1 16 ([8, 10, 7, 6, 4, 4, 7, 4, 12, 11, 7, 6, 4, 4, 7, 4] : List Int) h20 (by kernel_rfl) (by kernel_rfl) rfl (fun _ => rfl) (fun _ => rfl) (by kernel_rfl) rfl (flat_m (sz := 1) (len := 16) (fun _ => rfl) (by kernel_rfl) rfl) (by kernel_rfl) ?_)
      intro w53 h54 hk55
      refine RegI.done (by kernel_rfl) ?_
      refine RunsI.toRet (by kernel_rfl) ?_
      refine RetI.valW [.cell 2 46] [.agg (List.flatMap (fun (x : Int) => ([.int .i64 x] : List Value)) ([8, 10, 7, 6, 4, 4, 7, 4, 12, 11, 7, 6, 4, 4, 7, 4] : List Int)).toArray] (.agg (List.flatMap (fun (x : Int) => ([.int .i64 x] : List Value)) ([8, 10, 7, 6, 4, 4, 7, 4, 12, 11, 7, 6, 4, 4, 7, 4] : List Int)).toArray) (by kernel_rfl) (ResAt.box 0 46 b2 0 h54 (by kernel_rfl) (by kernel_rfl) rfl (loadV_arr (en := (fun (x : Int) => ([.int .i64 x] : List Value))) (len := 16) (sz := 1) (m := 16) (fun _ => rfl) (by kernel_rfl) (by kernel_rfl) rfl (by kernel_rfl)) rfl) (by kernel_rfl) ?_
      obtain rfl := Option.some.inj h
      exact ⟨rfl, h54.below⟩
    · skip
      refine RunsI.fix 9 false hc18 (by kernel_rfl) (by kernel_rfl) ?_
      refine RunsI.cond false 16 (by kernel_rfl) ?_
      refine RunsI.go 1 [.c 17, .c 18, .blk 0, .c 45] (by kernel_rfl) ?_
      refine RunsI.region (by kernel_rfl) ?_
      refine RegI.pure 2 [2, 3, 5, 12] [(2, .pointer (some ⟨b2, 0, none⟩)), (3, .pointer (some ⟨b7, 0, none⟩)), (5, .int .i64 p0), (12, .bool (p0 == 2))] (by kernel_rfl) ?_
      refine RegI.done (by kernel_rfl) ?_
      rcases of_cond h with ⟨hc22, h⟩ | ⟨hc22, h⟩
      · skip
        refine RunsI.fix 12 true hc22 (by kernel_rfl) (by kernel_rfl) ?_
        refine RunsI.cond true 19 (by kernel_rfl) ?_
        refine RunsI.region (by kernel_rfl) ?_
        refine RegI.pure 1 [2, 3, 14] [(2, .pointer (some ⟨b2, 0, none⟩)), (3, .pointer (some ⟨b7, 0, none⟩)), (14, .agg (List.flatMap (fun (x : Int) => ([.int .i64 x] : List Value)) ([7, 10, 16, 6, 4, 4, 7, 4, 7, 11, 16, 6, 4, 4, 7, 4] : List Int)).toArray)] (by kernel_rfl) ?_
        refine RegI.op (by kernel_rfl) (OpE.storeArrAll (en := (fun (x : Int) => ([.int .i64 x] : List Value))) 1 46 b7 16 1 16 ([7, 10, 16, 6, 4, 4, 7, 4, 7, 11, 16, 6, 4, 4, 7, 4] : List Int) h12 (by kernel_rfl) (by kernel_rfl) rfl (fun _ => rfl) (fun _ => rfl) (by kernel_rfl) rfl (flat_m (sz := 1) (len := 16) (fun _ => rfl) (by kernel_rfl) rfl) (by kernel_rfl) ?_)
        intro w23 h24 hk25
        refine RegI.done (by kernel_rfl) ?_
        refine RunsI.go 2 [.c 46, .c 47] (by kernel_rfl) ?_
        refine RunsI.region (by kernel_rfl) ?_
        refine RegI.op (by kernel_rfl) (OpE.loadBox 33 1 46 b7 0 (.agg (List.flatMap (fun (x : Int) => ([.int .i64 x] : List Value)) ([7, 10, 16, 6, 4, 4, 7, 4, 7, 11, 16, 6, 4, 4, 7, 4] : List Int)).toArray) h24 (by kernel_rfl) (by kernel_rfl) rfl (loadV_arr (en := (fun (x : Int) => ([.int .i64 x] : List Value))) (len := 16) (sz := 1) (m := 16) (fun _ => rfl) (by kernel_rfl) (by kernel_rfl) rfl (by kernel_rfl)) ?_)
        refine RegI.op (by kernel_rfl) (OpE.storeArrAll (en := (fun (x : Int) => ([.int .i64 x] : List Value))) 0 46 b2 16 1 16 ([7, 10, 16, 6, 4, 4, 7, 4, 7, 11, 16, 6, 4, 4, 7, 4] : List Int) h24 (by kernel_rfl) (by kernel_rfl) rfl (fun _ => rfl) (fun _ => rfl) (by kernel_rfl) rfl (flat_m (sz := 1) (len := 16) (fun _ => rfl) (by kernel_rfl) rfl) (by kernel_rfl) ?_)
        intro w56 h57 hk58
        refine RegI.done (by kernel_rfl) ?_
        refine RunsI.toRet (by kernel_rfl) ?_
        refine RetI.valW [.cell 2 46] [.agg (List.flatMap (fun (x : Int) => ([.int .i64 x] : List Value)) ([7, 10, 16, 6, 4, 4, 7, 4, 7, 11, 16, 6, 4, 4, 7, 4] : List Int)).toArray] (.agg (List.flatMap (fun (x : Int) => ([.int .i64 x] : List Value)) ([7, 10, 16, 6, 4, 4, 7, 4, 7, 11, 16, 6, 4, 4, 7, 4] : List Int)).toArray) (by kernel_rfl) (ResAt.box 0 46 b2 0 h57 (by kernel_rfl) (by kernel_rfl) rfl (loadV_arr (en := (fun (x : Int) => ([.int .i64 x] : List Value))) (len := 16) (sz := 1) (m := 16) (fun _ => rfl) (by kernel_rfl) (by kernel_rfl) rfl (by kernel_rfl)) rfl) (by kernel_rfl) ?_
        obtain rfl := Option.some.inj h
        exact ⟨rfl, h57.below⟩
      · skip
        refine RunsI.fix 12 false hc22 (by kernel_rfl) (by kernel_rfl) ?_
        refine RunsI.cond false 20 (by kernel_rfl) ?_
        refine RunsI.go 1 [.c 21, .c 22, .blk 0, .c 45] (by kernel_rfl) ?_
        refine RunsI.region (by kernel_rfl) ?_
        refine RegI.pure 2 [2, 3, 5, 15] [(2, .pointer (some ⟨b2, 0, none⟩)), (3, .pointer (some ⟨b7, 0, none⟩)), (5, .int .i64 p0), (15, .bool (p0 == 3))] (by kernel_rfl) ?_
        refine RegI.done (by kernel_rfl) ?_
        rcases of_cond h with ⟨hc26, h⟩ | ⟨hc26, h⟩
        · skip
          refine RunsI.fix 15 true hc26 (by kernel_rfl) (by kernel_rfl) ?_
          refine RunsI.cond true 23 (by kernel_rfl) ?_
          refine RunsI.region (by kernel_rfl) ?_
          refine RegI.pure 1 [2, 3, 17] [(2, .pointer (some ⟨b2, 0, none⟩)), (3, .pointer (some ⟨b7, 0, none⟩)), (17, .agg (List.flatMap (fun (x : Int) => ([.int .i64 x] : List Value)) ([7, 10, 13, 6, 11, 11, 10, 4, 7, 11, 13, 6, 4, 4, 7, 4] : List Int)).toArray)] (by kernel_rfl) ?_
          refine RegI.op (by kernel_rfl) (OpE.storeArrAll (en := (fun (x : Int) => ([.int .i64 x] : List Value))) 1 46 b7 16 1 16 ([7, 10, 13, 6, 11, 11, 10, 4, 7, 11, 13, 6, 4, 4, 7, 4] : List Int) h12 (by kernel_rfl) (by kernel_rfl) rfl (fun _ => rfl) (fun _ => rfl) (by kernel_rfl) rfl (flat_m (sz := 1) (len := 16) (fun _ => rfl) (by kernel_rfl) rfl) (by kernel_rfl) ?_)
          intro w27 h28 hk29
          refine RegI.done (by kernel_rfl) ?_
          refine RunsI.go 2 [.c 46, .c 47] (by kernel_rfl) ?_
          refine RunsI.region (by kernel_rfl) ?_
          refine RegI.op (by kernel_rfl) (OpE.loadBox 33 1 46 b7 0 (.agg (List.flatMap (fun (x : Int) => ([.int .i64 x] : List Value)) ([7, 10, 13, 6, 11, 11, 10, 4, 7, 11, 13, 6, 4, 4, 7, 4] : List Int)).toArray) h28 (by kernel_rfl) (by kernel_rfl) rfl (loadV_arr (en := (fun (x : Int) => ([.int .i64 x] : List Value))) (len := 16) (sz := 1) (m := 16) (fun _ => rfl) (by kernel_rfl) (by kernel_rfl) rfl (by kernel_rfl)) ?_)
          refine RegI.op (by kernel_rfl) (OpE.storeArrAll (en := (fun (x : Int) => ([.int .i64 x] : List Value))) 0 46 b2 16 1 16 ([7, 10, 13, 6, 11, 11, 10, 4, 7, 11, 13, 6, 4, 4, 7, 4] : List Int) h28 (by kernel_rfl) (by kernel_rfl) rfl (fun _ => rfl) (fun _ => rfl) (by kernel_rfl) rfl (flat_m (sz := 1) (len := 16) (fun _ => rfl) (by kernel_rfl) rfl) (by kernel_rfl) ?_)
          intro w59 h60 hk61
          refine RegI.done (by kernel_rfl) ?_
          refine RunsI.toRet (by kernel_rfl) ?_
          refine RetI.valW [.cell 2 46] [.agg (List.flatMap (fun (x : Int) => ([.int .i64 x] : List Value)) ([7, 10, 13, 6, 11, 11, 10, 4, 7, 11, 13, 6, 4, 4, 7, 4] : List Int)).toArray] (.agg (List.flatMap (fun (x : Int) => ([.int .i64 x] : List Value)) ([7, 10, 13, 6, 11, 11, 10, 4, 7, 11, 13, 6, 4, 4, 7, 4] : List Int)).toArray) (by kernel_rfl) (ResAt.box 0 46 b2 0 h60 (by kernel_rfl) (by kernel_rfl) rfl (loadV_arr (en := (fun (x : Int) => ([.int .i64 x] : List Value))) (len := 16) (sz := 1) (m := 16) (fun _ => rfl) (by kernel_rfl) (by kernel_rfl) rfl (by kernel_rfl)) rfl) (by kernel_rfl) ?_
          obtain rfl := Option.some.inj h
          exact ⟨rfl, h60.below⟩
        · skip
          refine RunsI.fix 15 false hc26 (by kernel_rfl) (by kernel_rfl) ?_
          refine RunsI.cond false 24 (by kernel_rfl) ?_
          refine RunsI.go 1 [.c 25, .c 26, .blk 0, .c 45] (by kernel_rfl) ?_
          refine RunsI.region (by kernel_rfl) ?_
          refine RegI.pure 2 [2, 3, 5, 18] [(2, .pointer (some ⟨b2, 0, none⟩)), (3, .pointer (some ⟨b7, 0, none⟩)), (5, .int .i64 p0), (18, .bool (p0 == 7))] (by kernel_rfl) ?_
          refine RegI.done (by kernel_rfl) ?_
          rcases of_cond h with ⟨hc30, h⟩ | ⟨hc30, h⟩
          · skip
            refine RunsI.fix 18 true hc30 (by kernel_rfl) (by kernel_rfl) ?_
            refine RunsI.cond true 27 (by kernel_rfl) ?_
            refine RunsI.region (by kernel_rfl) ?_
            refine RegI.pure 1 [2, 3, 20] [(2, .pointer (some ⟨b2, 0, none⟩)), (3, .pointer (some ⟨b7, 0, none⟩)), (20, .agg (List.flatMap (fun (x : Int) => ([.int .i64 x] : List Value)) ([7, 7, 7, 7, 7, 7, 4, 7, 4, 4, 4, 4, 4, 4, 7, 4] : List Int)).toArray)] (by kernel_rfl) ?_
            refine RegI.op (by kernel_rfl) (OpE.storeArrAll (en := (fun (x : Int) => ([.int .i64 x] : List Value))) 1 46 b7 16 1 16 ([7, 7, 7, 7, 7, 7, 4, 7, 4, 4, 4, 4, 4, 4, 7, 4] : List Int) h12 (by kernel_rfl) (by kernel_rfl) rfl (fun _ => rfl) (fun _ => rfl) (by kernel_rfl) rfl (flat_m (sz := 1) (len := 16) (fun _ => rfl) (by kernel_rfl) rfl) (by kernel_rfl) ?_)
            intro w31 h32 hk33
            refine RegI.done (by kernel_rfl) ?_
            refine RunsI.go 2 [.c 46, .c 47] (by kernel_rfl) ?_
            refine RunsI.region (by kernel_rfl) ?_
            refine RegI.op (by kernel_rfl) (OpE.loadBox 33 1 46 b7 0 (.agg (List.flatMap (fun (x : Int) => ([.int .i64 x] : List Value)) ([7, 7, 7, 7, 7, 7, 4, 7, 4, 4, 4, 4, 4, 4, 7, 4] : List Int)).toArray) h32 (by kernel_rfl) (by kernel_rfl) rfl (loadV_arr (en := (fun (x : Int) => ([.int .i64 x] : List Value))) (len := 16) (sz := 1) (m := 16) (fun _ => rfl) (by kernel_rfl) (by kernel_rfl) rfl (by kernel_rfl)) ?_)
            refine RegI.op (by kernel_rfl) (OpE.storeArrAll (en := (fun (x : Int) => ([.int .i64 x] : List Value))) 0 46 b2 16 1 16 ([7, 7, 7, 7, 7, 7, 4, 7, 4, 4, 4, 4, 4, 4, 7, 4] : List Int) h32 (by kernel_rfl) (by kernel_rfl) rfl (fun _ => rfl) (fun _ => rfl) (by kernel_rfl) rfl (flat_m (sz := 1) (len := 16) (fun _ => rfl) (by kernel_rfl) rfl) (by kernel_rfl) ?_)
            intro w62 h63 hk64
            refine RegI.done (by kernel_rfl) ?_
            refine RunsI.toRet (by kernel_rfl) ?_
            refine RetI.valW [.cell 2 46] [.agg (List.flatMap (fun (x : Int) => ([.int .i64 x] : List Value)) ([7, 7, 7, 7, 7, 7, 4, 7, 4, 4, 4, 4, 4, 4, 7, 4] : List Int)).toArray] (.agg (List.flatMap (fun (x : Int) => ([.int .i64 x] : List Value)) ([7, 7, 7, 7, 7, 7, 4, 7, 4, 4, 4, 4, 4, 4, 7, 4] : List Int)).toArray) (by kernel_rfl) (ResAt.box 0 46 b2 0 h63 (by kernel_rfl) (by kernel_rfl) rfl (loadV_arr (en := (fun (x : Int) => ([.int .i64 x] : List Value))) (len := 16) (sz := 1) (m := 16) (fun _ => rfl) (by kernel_rfl) (by kernel_rfl) rfl (by kernel_rfl)) rfl) (by kernel_rfl) ?_
            obtain rfl := Option.some.inj h
            exact ⟨rfl, h63.below⟩
          · skip
            refine RunsI.fix 18 false hc30 (by kernel_rfl) (by kernel_rfl) ?_
            refine RunsI.cond false 28 (by kernel_rfl) ?_
            refine RunsI.go 1 [.c 29, .c 30, .blk 0, .c 45] (by kernel_rfl) ?_
            refine RunsI.region (by kernel_rfl) ?_
            refine RegI.pure 2 [2, 3, 5, 21] [(2, .pointer (some ⟨b2, 0, none⟩)), (3, .pointer (some ⟨b7, 0, none⟩)), (5, .int .i64 p0), (21, .bool (p0 == 12))] (by kernel_rfl) ?_
            refine RegI.done (by kernel_rfl) ?_
            rcases of_cond h with ⟨hc34, h⟩ | ⟨hc34, h⟩
            · skip
              refine RunsI.fix 21 true hc34 (by kernel_rfl) (by kernel_rfl) ?_
              refine RunsI.cond true 31 (by kernel_rfl) ?_
              refine RunsI.region (by kernel_rfl) ?_
              refine RegI.pure 1 [2, 3, 23] [(2, .pointer (some ⟨b2, 0, none⟩)), (3, .pointer (some ⟨b7, 0, none⟩)), (23, .agg (List.flatMap (fun (x : Int) => ([.int .i64 x] : List Value)) ([5, 10, 10, 10, 10, 11, 7, 11, 5, 10, 10, 4, 10, 17, 7, 11] : List Int)).toArray)] (by kernel_rfl) ?_
              refine RegI.op (by kernel_rfl) (OpE.storeArrAll (en := (fun (x : Int) => ([.int .i64 x] : List Value))) 1 46 b7 16 1 16 ([5, 10, 10, 10, 10, 11, 7, 11, 5, 10, 10, 4, 10, 17, 7, 11] : List Int) h12 (by kernel_rfl) (by kernel_rfl) rfl (fun _ => rfl) (fun _ => rfl) (by kernel_rfl) rfl (flat_m (sz := 1) (len := 16) (fun _ => rfl) (by kernel_rfl) rfl) (by kernel_rfl) ?_)
              intro w35 h36 hk37
              refine RegI.done (by kernel_rfl) ?_
              refine RunsI.go 2 [.c 46, .c 47] (by kernel_rfl) ?_
              refine RunsI.region (by kernel_rfl) ?_
              refine RegI.op (by kernel_rfl) (OpE.loadBox 33 1 46 b7 0 (.agg (List.flatMap (fun (x : Int) => ([.int .i64 x] : List Value)) ([5, 10, 10, 10, 10, 11, 7, 11, 5, 10, 10, 4, 10, 17, 7, 11] : List Int)).toArray) h36 (by kernel_rfl) (by kernel_rfl) rfl (loadV_arr (en := (fun (x : Int) => ([.int .i64 x] : List Value))) (len := 16) (sz := 1) (m := 16) (fun _ => rfl) (by kernel_rfl) (by kernel_rfl) rfl (by kernel_rfl)) ?_)
              refine RegI.op (by kernel_rfl) (OpE.storeArrAll (en := (fun (x : Int) => ([.int .i64 x] : List Value))) 0 46 b2 16 1 16 ([5, 10, 10, 10, 10, 11, 7, 11, 5, 10, 10, 4, 10, 17, 7, 11] : List Int) h36 (by kernel_rfl) (by kernel_rfl) rfl (fun _ => rfl) (fun _ => rfl) (by kernel_rfl) rfl (flat_m (sz := 1) (len := 16) (fun _ => rfl) (by kernel_rfl) rfl) (by kernel_rfl) ?_)
              intro w65 h66 hk67
              refine RegI.done (by kernel_rfl) ?_
              refine RunsI.toRet (by kernel_rfl) ?_
              refine RetI.valW [.cell 2 46] [.agg (List.flatMap (fun (x : Int) => ([.int .i64 x] : List Value)) ([5, 10, 10, 10, 10, 11, 7, 11, 5, 10, 10, 4, 10, 17, 7, 11] : List Int)).toArray] (.agg (List.flatMap (fun (x : Int) => ([.int .i64 x] : List Value)) ([5, 10, 10, 10, 10, 11, 7, 11, 5, 10, 10, 4, 10, 17, 7, 11] : List Int)).toArray) (by kernel_rfl) (ResAt.box 0 46 b2 0 h66 (by kernel_rfl) (by kernel_rfl) rfl (loadV_arr (en := (fun (x : Int) => ([.int .i64 x] : List Value))) (len := 16) (sz := 1) (m := 16) (fun _ => rfl) (by kernel_rfl) (by kernel_rfl) rfl (by kernel_rfl)) rfl) (by kernel_rfl) ?_
              obtain rfl := Option.some.inj h
              exact ⟨rfl, h66.below⟩
            · skip
              refine RunsI.fix 21 false hc34 (by kernel_rfl) (by kernel_rfl) ?_
              refine RunsI.cond false 32 (by kernel_rfl) ?_
              refine RunsI.go 1 [.c 33, .c 34, .blk 0, .c 45] (by kernel_rfl) ?_
              refine RunsI.region (by kernel_rfl) ?_
              refine RegI.pure 2 [2, 3, 5, 24] [(2, .pointer (some ⟨b2, 0, none⟩)), (3, .pointer (some ⟨b7, 0, none⟩)), (5, .int .i64 p0), (24, .bool (p0 == 13))] (by kernel_rfl) ?_
              refine RegI.done (by kernel_rfl) ?_
              rcases of_cond h with ⟨hc38, h⟩ | ⟨hc38, h⟩
              · skip
                refine RunsI.fix 24 true hc38 (by kernel_rfl) (by kernel_rfl) ?_
                refine RunsI.cond true 35 (by kernel_rfl) ?_
                refine RunsI.region (by kernel_rfl) ?_
                refine RegI.pure 1 [2, 3, 26] [(2, .pointer (some ⟨b2, 0, none⟩)), (3, .pointer (some ⟨b7, 0, none⟩)), (26, .agg (List.flatMap (fun (x : Int) => ([.int .i64 x] : List Value)) ([5, 10, 10, 11, 10, 11, 7, 11, 5, 4, 10, 11, 10, 4, 7, 11] : List Int)).toArray)] (by kernel_rfl) ?_
                refine RegI.op (by kernel_rfl) (OpE.storeArrAll (en := (fun (x : Int) => ([.int .i64 x] : List Value))) 1 46 b7 16 1 16 ([5, 10, 10, 11, 10, 11, 7, 11, 5, 4, 10, 11, 10, 4, 7, 11] : List Int) h12 (by kernel_rfl) (by kernel_rfl) rfl (fun _ => rfl) (fun _ => rfl) (by kernel_rfl) rfl (flat_m (sz := 1) (len := 16) (fun _ => rfl) (by kernel_rfl) rfl) (by kernel_rfl) ?_)
                intro w39 h40 hk41
                refine RegI.done (by kernel_rfl) ?_
                refine RunsI.go 2 [.c 46, .c 47] (by kernel_rfl) ?_
                refine RunsI.region (by kernel_rfl) ?_
                refine RegI.op (by kernel_rfl) (OpE.loadBox 33 1 46 b7 0 (.agg (List.flatMap (fun (x : Int) => ([.int .i64 x] : List Value)) ([5, 10, 10, 11, 10, 11, 7, 11, 5, 4, 10, 11, 10, 4, 7, 11] : List Int)).toArray) h40 (by kernel_rfl) (by kernel_rfl) rfl (loadV_arr (en := (fun (x : Int) => ([.int .i64 x] : List Value))) (len := 16) (sz := 1) (m := 16) (fun _ => rfl) (by kernel_rfl) (by kernel_rfl) rfl (by kernel_rfl)) ?_)
                refine RegI.op (by kernel_rfl) (OpE.storeArrAll (en := (fun (x : Int) => ([.int .i64 x] : List Value))) 0 46 b2 16 1 16 ([5, 10, 10, 11, 10, 11, 7, 11, 5, 4, 10, 11, 10, 4, 7, 11] : List Int) h40 (by kernel_rfl) (by kernel_rfl) rfl (fun _ => rfl) (fun _ => rfl) (by kernel_rfl) rfl (flat_m (sz := 1) (len := 16) (fun _ => rfl) (by kernel_rfl) rfl) (by kernel_rfl) ?_)
                intro w68 h69 hk70
                refine RegI.done (by kernel_rfl) ?_
                refine RunsI.toRet (by kernel_rfl) ?_
                refine RetI.valW [.cell 2 46] [.agg (List.flatMap (fun (x : Int) => ([.int .i64 x] : List Value)) ([5, 10, 10, 11, 10, 11, 7, 11, 5, 4, 10, 11, 10, 4, 7, 11] : List Int)).toArray] (.agg (List.flatMap (fun (x : Int) => ([.int .i64 x] : List Value)) ([5, 10, 10, 11, 10, 11, 7, 11, 5, 4, 10, 11, 10, 4, 7, 11] : List Int)).toArray) (by kernel_rfl) (ResAt.box 0 46 b2 0 h69 (by kernel_rfl) (by kernel_rfl) rfl (loadV_arr (en := (fun (x : Int) => ([.int .i64 x] : List Value))) (len := 16) (sz := 1) (m := 16) (fun _ => rfl) (by kernel_rfl) (by kernel_rfl) rfl (by kernel_rfl)) rfl) (by kernel_rfl) ?_
                obtain rfl := Option.some.inj h
                exact ⟨rfl, h69.below⟩
              · skip
                refine RunsI.fix 24 false hc38 (by kernel_rfl) (by kernel_rfl) ?_
                refine RunsI.cond false 36 (by kernel_rfl) ?_
                refine RunsI.go 1 [.c 37, .c 38, .blk 0, .c 45] (by kernel_rfl) ?_
                refine RunsI.region (by kernel_rfl) ?_
                refine RegI.pure 2 [2, 3, 5, 27] [(2, .pointer (some ⟨b2, 0, none⟩)), (3, .pointer (some ⟨b7, 0, none⟩)), (5, .int .i64 p0), (27, .bool (p0 == 14))] (by kernel_rfl) ?_
                refine RegI.done (by kernel_rfl) ?_
                rcases of_cond h with ⟨hc42, h⟩ | ⟨hc42, h⟩
                · skip
                  refine RunsI.fix 27 true hc42 (by kernel_rfl) (by kernel_rfl) ?_
                  refine RunsI.cond true 39 (by kernel_rfl) ?_
                  refine RunsI.region (by kernel_rfl) ?_
                  refine RegI.pure 1 [2, 3, 29] [(2, .pointer (some ⟨b2, 0, none⟩)), (3, .pointer (some ⟨b7, 0, none⟩)), (29, .agg (List.flatMap (fun (x : Int) => ([.int .i64 x] : List Value)) ([5, 10, 10, 19, 10, 11, 7, 11, 5, 4, 10, 4, 10, 4, 7, 11] : List Int)).toArray)] (by kernel_rfl) ?_
                  refine RegI.op (by kernel_rfl) (OpE.storeArrAll (en := (fun (x : Int) => ([.int .i64 x] : List Value))) 1 46 b7 16 1 16 ([5, 10, 10, 19, 10, 11, 7, 11, 5, 4, 10, 4, 10, 4, 7, 11] : List Int) h12 (by kernel_rfl) (by kernel_rfl) rfl (fun _ => rfl) (fun _ => rfl) (by kernel_rfl) rfl (flat_m (sz := 1) (len := 16) (fun _ => rfl) (by kernel_rfl) rfl) (by kernel_rfl) ?_)
                  intro w43 h44 hk45
                  refine RegI.done (by kernel_rfl) ?_
                  refine RunsI.go 2 [.c 46, .c 47] (by kernel_rfl) ?_
                  refine RunsI.region (by kernel_rfl) ?_
                  refine RegI.op (by kernel_rfl) (OpE.loadBox 33 1 46 b7 0 (.agg (List.flatMap (fun (x : Int) => ([.int .i64 x] : List Value)) ([5, 10, 10, 19, 10, 11, 7, 11, 5, 4, 10, 4, 10, 4, 7, 11] : List Int)).toArray) h44 (by kernel_rfl) (by kernel_rfl) rfl (loadV_arr (en := (fun (x : Int) => ([.int .i64 x] : List Value))) (len := 16) (sz := 1) (m := 16) (fun _ => rfl) (by kernel_rfl) (by kernel_rfl) rfl (by kernel_rfl)) ?_)
                  refine RegI.op (by kernel_rfl) (OpE.storeArrAll (en := (fun (x : Int) => ([.int .i64 x] : List Value))) 0 46 b2 16 1 16 ([5, 10, 10, 19, 10, 11, 7, 11, 5, 4, 10, 4, 10, 4, 7, 11] : List Int) h44 (by kernel_rfl) (by kernel_rfl) rfl (fun _ => rfl) (fun _ => rfl) (by kernel_rfl) rfl (flat_m (sz := 1) (len := 16) (fun _ => rfl) (by kernel_rfl) rfl) (by kernel_rfl) ?_)
                  intro w71 h72 hk73
                  refine RegI.done (by kernel_rfl) ?_
                  refine RunsI.toRet (by kernel_rfl) ?_
                  refine RetI.valW [.cell 2 46] [.agg (List.flatMap (fun (x : Int) => ([.int .i64 x] : List Value)) ([5, 10, 10, 19, 10, 11, 7, 11, 5, 4, 10, 4, 10, 4, 7, 11] : List Int)).toArray] (.agg (List.flatMap (fun (x : Int) => ([.int .i64 x] : List Value)) ([5, 10, 10, 19, 10, 11, 7, 11, 5, 4, 10, 4, 10, 4, 7, 11] : List Int)).toArray) (by kernel_rfl) (ResAt.box 0 46 b2 0 h72 (by kernel_rfl) (by kernel_rfl) rfl (loadV_arr (en := (fun (x : Int) => ([.int .i64 x] : List Value))) (len := 16) (sz := 1) (m := 16) (fun _ => rfl) (by kernel_rfl) (by kernel_rfl) rfl (by kernel_rfl)) rfl) (by kernel_rfl) ?_
                  obtain rfl := Option.some.inj h
                  exact ⟨rfl, h72.below⟩
                · skip
                  refine RunsI.fix 27 false hc42 (by kernel_rfl) (by kernel_rfl) ?_
                  refine RunsI.cond false 40 (by kernel_rfl) ?_
                  refine RunsI.go 1 [.c 41, .c 42, .blk 0, .c 45] (by kernel_rfl) ?_
                  refine RunsI.region (by kernel_rfl) ?_
                  refine RegI.pure 2 [2, 3, 30] [(2, .pointer (some ⟨b2, 0, none⟩)), (3, .pointer (some ⟨b7, 0, none⟩)), (30, .bool (p0 == 15))] (by kernel_rfl) ?_
                  refine RegI.done (by kernel_rfl) ?_
                  rcases of_cond h with ⟨hc46, h⟩ | ⟨hc46, h⟩
                  · skip
                    refine RunsI.fix 30 true hc46 (by kernel_rfl) (by kernel_rfl) ?_
                    refine RunsI.cond true 43 (by kernel_rfl) ?_
                    refine RunsI.region (by kernel_rfl) ?_
                    refine RegI.pure 1 [2, 3, 32] [(2, .pointer (some ⟨b2, 0, none⟩)), (3, .pointer (some ⟨b7, 0, none⟩)), (32, .agg (List.flatMap (fun (x : Int) => ([.int .i64 x] : List Value)) ([5, 10, 10, 4, 10, 11, 7, 11, 5, 6, 10, 4, 10, 4, 7, 11] : List Int)).toArray)] (by kernel_rfl) ?_
                    refine RegI.op (by kernel_rfl) (OpE.storeArrAll (en := (fun (x : Int) => ([.int .i64 x] : List Value))) 1 46 b7 16 1 16 ([5, 10, 10, 4, 10, 11, 7, 11, 5, 6, 10, 4, 10, 4, 7, 11] : List Int) h12 (by kernel_rfl) (by kernel_rfl) rfl (fun _ => rfl) (fun _ => rfl) (by kernel_rfl) rfl (flat_m (sz := 1) (len := 16) (fun _ => rfl) (by kernel_rfl) rfl) (by kernel_rfl) ?_)
                    intro w47 h48 hk49
                    refine RegI.done (by kernel_rfl) ?_
                    refine RunsI.go 2 [.c 46, .c 47] (by kernel_rfl) ?_
                    refine RunsI.region (by kernel_rfl) ?_
                    refine RegI.op (by kernel_rfl) (OpE.loadBox 33 1 46 b7 0 (.agg (List.flatMap (fun (x : Int) => ([.int .i64 x] : List Value)) ([5, 10, 10, 4, 10, 11, 7, 11, 5, 6, 10, 4, 10, 4, 7, 11] : List Int)).toArray) h48 (by kernel_rfl) (by kernel_rfl) rfl (loadV_arr (en := (fun (x : Int) => ([.int .i64 x] : List Value))) (len := 16) (sz := 1) (m := 16) (fun _ => rfl) (by kernel_rfl) (by kernel_rfl) rfl (by kernel_rfl)) ?_)
                    refine RegI.op (by kernel_rfl) (OpE.storeArrAll (en := (fun (x : Int) => ([.int .i64 x] : List Value))) 0 46 b2 16 1 16 ([5, 10, 10, 4, 10, 11, 7, 11, 5, 6, 10, 4, 10, 4, 7, 11] : List Int) h48 (by kernel_rfl) (by kernel_rfl) rfl (fun _ => rfl) (fun _ => rfl) (by kernel_rfl) rfl (flat_m (sz := 1) (len := 16) (fun _ => rfl) (by kernel_rfl) rfl) (by kernel_rfl) ?_)
                    intro w74 h75 hk76
                    refine RegI.done (by kernel_rfl) ?_
                    refine RunsI.toRet (by kernel_rfl) ?_
                    refine RetI.valW [.cell 2 46] [.agg (List.flatMap (fun (x : Int) => ([.int .i64 x] : List Value)) ([5, 10, 10, 4, 10, 11, 7, 11, 5, 6, 10, 4, 10, 4, 7, 11] : List Int)).toArray] (.agg (List.flatMap (fun (x : Int) => ([.int .i64 x] : List Value)) ([5, 10, 10, 4, 10, 11, 7, 11, 5, 6, 10, 4, 10, 4, 7, 11] : List Int)).toArray) (by kernel_rfl) (ResAt.box 0 46 b2 0 h75 (by kernel_rfl) (by kernel_rfl) rfl (loadV_arr (en := (fun (x : Int) => ([.int .i64 x] : List Value))) (len := 16) (sz := 1) (m := 16) (fun _ => rfl) (by kernel_rfl) (by kernel_rfl) rfl (by kernel_rfl)) rfl) (by kernel_rfl) ?_
                    obtain rfl := Option.some.inj h
                    exact ⟨rfl, h75.below⟩
                  · skip
                    refine RunsI.fix 30 false hc46 (by kernel_rfl) (by kernel_rfl) ?_
                    refine RunsI.cond false 44 (by kernel_rfl) ?_
                    refine RunsI.go 1 [.blk 0, .c 45] (by kernel_rfl) ?_
                    refine RunsI.go 2 [.c 46, .c 47] (by kernel_rfl) ?_
                    refine RunsI.region (by kernel_rfl) ?_
                    refine RegI.op (by kernel_rfl) (OpE.loadBox 33 1 46 b7 0 (.agg (List.flatMap (fun (x : Int) => ([.int .i64 x] : List Value)) ([4, 4, 4, 4, 4, 4, 7, 4, 4, 4, 4, 4, 4, 4, 7, 4] : List Int)).toArray) h12 (by kernel_rfl) (by kernel_rfl) rfl (loadV_arr (en := (fun (x : Int) => ([.int .i64 x] : List Value))) (len := 16) (sz := 1) (m := 16) (fun _ => rfl) (by kernel_rfl) (by kernel_rfl) rfl (by kernel_rfl)) ?_)
                    refine RegI.op (by kernel_rfl) (OpE.storeArrAll (en := (fun (x : Int) => ([.int .i64 x] : List Value))) 0 46 b2 16 1 16 ([4, 4, 4, 4, 4, 4, 7, 4, 4, 4, 4, 4, 4, 4, 7, 4] : List Int) h12 (by kernel_rfl) (by kernel_rfl) rfl (fun _ => rfl) (fun _ => rfl) (by kernel_rfl) rfl (flat_m (sz := 1) (len := 16) (fun _ => rfl) (by kernel_rfl) rfl) (by kernel_rfl) ?_)
                    intro w77 h78 hk79
                    refine RegI.done (by kernel_rfl) ?_
                    refine RunsI.toRet (by kernel_rfl) ?_
                    refine RetI.valW [.cell 2 46] [.agg (List.flatMap (fun (x : Int) => ([.int .i64 x] : List Value)) ([4, 4, 4, 4, 4, 4, 7, 4, 4, 4, 4, 4, 4, 4, 7, 4] : List Int)).toArray] (.agg (List.flatMap (fun (x : Int) => ([.int .i64 x] : List Value)) ([4, 4, 4, 4, 4, 4, 7, 4, 4, 4, 4, 4, 4, 4, 7, 4] : List Int)).toArray) (by kernel_rfl) (ResAt.box 0 46 b2 0 h78 (by kernel_rfl) (by kernel_rfl) rfl (loadV_arr (en := (fun (x : Int) => ([.int .i64 x] : List Value))) (len := 16) (sz := 1) (m := 16) (fun _ => rfl) (by kernel_rfl) (by kernel_rfl) rfl (by kernel_rfl)) rfl) (by kernel_rfl) ?_
                    obtain rfl := Option.some.inj h
                    exact ⟨rfl, h78.below⟩
end

/-! ### charabanc/charabancref10.more (function 24) -/
section
def charabancref10_more_24.post (M0 : Nat → Prop) (w0 : World) (r : Int) : Ending → World → Prop := fun e w => e = .returned (.int .i64 r) ∧ Below w0.heap.size w0 w
def charabancref10_more_24.f (K : Nat) (p0 : Int) : Option Int := (charabancref08_Fields_22.f K p0).bind fun yt5 => Let (fun (t14 : Bool) => cond t14 (some 5) (Let (fun (t22 : Bool) => cond t22 (some 6) (Let (fun (t30 : Bool) => cond t30 (some 7) (some 0)) (fun j33 => cond (yt5.1 == 3) (j33 (yt5.2.2.1 == 4)) (j33 false)))) (fun j25 => cond (yt5.1 == 3) (j25 (yt5.2.2.1 == 0)) (j25 false)))) (fun j17 => cond (p0 == 16) (j17 true) (cond (p0 == 32) (j17 true) (cond (p0 == 40) (j17 true) (cond (p0 == 48) (j17 true) (j17 (p0 == 56))))))
set_option maxRecDepth 100000 in
theorem charabancref10_more_24_ok (K : Nat) (M0 : Nat → Prop) (w0 : World) (p0 : Int) (ho : ∀ b, M0 b → b < w0.heap.size) {r : Int} (h : charabancref10_more_24.f K p0 = some r) :
    Calls Tryd.prog 24 #[.int .u8 p0] w0 (charabancref10_more_24.post M0 w0 r) := by
  unfold charabancref10_more_24.f at h
  have h0 : Holds M0 w0 w0 [] := Holds.start ho
  have h0 : Holds M0 w0 w0 [] := h0
  refine calls_of F24 rfl [.int .u8 p0] (by kernel_rfl) ?_
  refine RunsI.go 1 [.c 1, .c 2] (by kernel_rfl) ?_
  refine RunsI.region (by kernel_rfl) ?_
  refine RegI.pure 1 [0] [(0, .int .u8 p0)] (by kernel_rfl) ?_
  refine RegI.done (by kernel_rfl) ?_
  refine RunsI.go 1 [.c 3, .c 4] (by kernel_rfl) ?_
  refine RunsI.region (by kernel_rfl) ?_
  refine RegI.pure 1 [0, 9] [(0, .int .u8 p0), (9, .int .u8 p0)] (by kernel_rfl) ?_
  obtain ⟨⟨t5, t6, t7, t8, t9⟩, hg4, h⟩ := of_bind h
  dsimp only at h
  refine RegI.op (by kernel_rfl) (OpE.call 10 (by kernel_rfl) 22 #[.int .u8 p0] (by kernel_rfl) ((charabancref08_Fields_22_ok K _ w0  p0 h0.old' hg4).mono ?_))
  rintro _ w1 ⟨rfl, hb2⟩
  refine ⟨_, rfl, ?_⟩
  have h3 := h0.call hb2
  refine RegI.pure 11 [0, 3, 5] [(0, .int .u8 p0), (3, .int .i64 t5), (5, .int .i64 t7)] (by kernel_rfl) ?_
  refine RegI.done (by kernel_rfl) ?_
  refine RunsI.go 2 [.c 6, .c 7, .c 12] (by kernel_rfl) ?_
  refine RunsI.region (by kernel_rfl) ?_
  refine RegI.pure 3 [0, 3, 5, 18] [(0, .int .u8 p0), (3, .int .i64 t5), (5, .int .i64 t7), (18, .bool (p0 == 16))] (by kernel_rfl) ?_
  obtain ⟨j17, hJ18, h⟩ := of_let h
  have hj19 : ∀ (t14 : Bool) (w16 : World), j17 t14 = some r → Holds M0 w0 w16 [] → RegI F24 6 [.c 7, .c 12] 18 [(3, .int .i64 t5), (5, .int .i64 t7), (33, .bool t14)] w16 (charabancref10_more_24.post M0 w0 r) := by
    intro t14 w16 h h15
    rw [hJ18] at h
    clear hJ18
    dsimp only at h
    refine RegI.done (by kernel_rfl) ?_
    rcases of_cond h with ⟨hc20, h⟩ | ⟨hc20, h⟩
    · skip
      refine RunsI.fix 33 true hc20 (by kernel_rfl) (by kernel_rfl) ?_
      refine RunsI.cond true 8 (by kernel_rfl) ?_
      refine RunsI.go 1 [.c 9, .c 10, .c 12] (by kernel_rfl) ?_
      refine RunsI.region (by kernel_rfl) ?_
      refine RegI.pure 1 [2] [(2, .int .i64 5)] (by kernel_rfl) ?_
      refine RegI.done (by kernel_rfl) ?_
      refine RunsI.ret (.int .i64 5) (by kernel_rfl) (by kernel_rfl) ?_
      obtain rfl := Option.some.inj h
      exact ⟨rfl, h15.below⟩
    · skip
      refine RunsI.fix 33 false hc20 (by kernel_rfl) (by kernel_rfl) ?_
      refine RunsI.cond false 11 (by kernel_rfl) ?_
      refine RunsI.go 1 [.c 12] (by kernel_rfl) ?_
      refine RunsI.go 2 [.c 14, .c 15, .c 20] (by kernel_rfl) ?_
      refine RunsI.region (by kernel_rfl) ?_
      refine RegI.pure 3 [3, 5, 36] [(3, .int .i64 t5), (5, .int .i64 t7), (36, .bool (t5 == 3))] (by kernel_rfl) ?_
      obtain ⟨j25, hJ26, h⟩ := of_let h
      have hj27 : ∀ (t22 : Bool) (w24 : World), j25 t22 = some r → Holds M0 w0 w24 [] → RegI F24 14 [.c 15, .c 20] 6 [(3, .int .i64 t5), (5, .int .i64 t7), (39, .bool t22)] w24 (charabancref10_more_24.post M0 w0 r) := by
        intro t22 w24 h h23
        rw [hJ26] at h
        clear hJ26
        dsimp only at h
        refine RegI.done (by kernel_rfl) ?_
        rcases of_cond h with ⟨hc28, h⟩ | ⟨hc28, h⟩
        · skip
          refine RunsI.fix 39 true hc28 (by kernel_rfl) (by kernel_rfl) ?_
          refine RunsI.cond true 16 (by kernel_rfl) ?_
          refine RunsI.go 1 [.c 17, .c 18, .c 20] (by kernel_rfl) ?_
          refine RunsI.region (by kernel_rfl) ?_
          refine RegI.pure 1 [2] [(2, .int .i64 6)] (by kernel_rfl) ?_
          refine RegI.done (by kernel_rfl) ?_
          refine RunsI.ret (.int .i64 6) (by kernel_rfl) (by kernel_rfl) ?_
          obtain rfl := Option.some.inj h
          exact ⟨rfl, h23.below⟩
        · skip
          refine RunsI.fix 39 false hc28 (by kernel_rfl) (by kernel_rfl) ?_
          refine RunsI.cond false 19 (by kernel_rfl) ?_
          refine RunsI.go 1 [.c 20] (by kernel_rfl) ?_
          refine RunsI.go 2 [.c 22, .c 23, .c 28] (by kernel_rfl) ?_
          refine RunsI.region (by kernel_rfl) ?_
          refine RegI.pure 3 [5, 42] [(5, .int .i64 t7), (42, .bool (t5 == 3))] (by kernel_rfl) ?_
          obtain ⟨j33, hJ34, h⟩ := of_let h
          have hj35 : ∀ (t30 : Bool) (w32 : World), j33 t30 = some r → Holds M0 w0 w32 [] → RegI F24 22 [.c 23, .c 28] 6 [(45, .bool t30)] w32 (charabancref10_more_24.post M0 w0 r) := by
            intro t30 w32 h h31
            rw [hJ34] at h
            clear hJ34
            dsimp only at h
            refine RegI.done (by kernel_rfl) ?_
            rcases of_cond h with ⟨hc36, h⟩ | ⟨hc36, h⟩
            · skip
              refine RunsI.fix 45 true hc36 (by kernel_rfl) (by kernel_rfl) ?_
              refine RunsI.cond true 24 (by kernel_rfl) ?_
              refine RunsI.go 1 [.c 25, .c 26, .c 28] (by kernel_rfl) ?_
              refine RunsI.region (by kernel_rfl) ?_
              refine RegI.pure 1 [2] [(2, .int .i64 7)] (by kernel_rfl) ?_
              refine RegI.done (by kernel_rfl) ?_
              refine RunsI.ret (.int .i64 7) (by kernel_rfl) (by kernel_rfl) ?_
              obtain rfl := Option.some.inj h
              exact ⟨rfl, h31.below⟩
            · skip
              refine RunsI.fix 45 false hc36 (by kernel_rfl) (by kernel_rfl) ?_
              refine RunsI.cond false 27 (by kernel_rfl) ?_
              refine RunsI.go 1 [.c 28] (by kernel_rfl) ?_
              refine RunsI.go 1 [.c 29, .c 30] (by kernel_rfl) ?_
              refine RunsI.region (by kernel_rfl) ?_
              refine RegI.pure 1 [2] [(2, .int .i64 0)] (by kernel_rfl) ?_
              refine RegI.done (by kernel_rfl) ?_
              refine RunsI.ret (.int .i64 0) (by kernel_rfl) (by kernel_rfl) ?_
              obtain rfl := Option.some.inj h
              exact ⟨rfl, h31.below⟩
          clear hJ34
          rcases of_cond h with ⟨hc29, h⟩ | ⟨hc29, h⟩
          · skip
            refine RegI.fix 42 true hc29 (by kernel_rfl) (by kernel_rfl) ?_
            refine RegI.pure 3 [45] [(45, .bool (t7 == 4))] (by kernel_rfl) ?_
            refine RegI.only [45] [(45, .bool (t7 == 4))] (by kernel_rfl) (by kernel_rfl) ?_
            exact hj35 (t7 == 4) w24 h (h23.pick [] (by decide))
          · skip
            refine RegI.fix 42 false hc29 (by kernel_rfl) (by kernel_rfl) ?_
            refine RegI.pure 3 [45] [(45, .bool false)] (by kernel_rfl) ?_
            refine RegI.only [45] [(45, .bool false)] (by kernel_rfl) (by kernel_rfl) ?_
            exact hj35 false w24 h (h23.pick [] (by decide))
      clear hJ26
      rcases of_cond h with ⟨hc21, h⟩ | ⟨hc21, h⟩
      · skip
        refine RegI.fix 36 true hc21 (by kernel_rfl) (by kernel_rfl) ?_
        refine RegI.pure 3 [3, 5, 39] [(3, .int .i64 t5), (5, .int .i64 t7), (39, .bool (t7 == 0))] (by kernel_rfl) ?_
        refine RegI.only [3, 5, 39] [(3, .int .i64 t5), (5, .int .i64 t7), (39, .bool (t7 == 0))] (by kernel_rfl) (by kernel_rfl) ?_
        exact hj27 (t7 == 0) w16 h (h15.pick [] (by decide))
      · skip
        refine RegI.fix 36 false hc21 (by kernel_rfl) (by kernel_rfl) ?_
        refine RegI.pure 3 [3, 5, 39] [(3, .int .i64 t5), (5, .int .i64 t7), (39, .bool false)] (by kernel_rfl) ?_
        refine RegI.only [3, 5, 39] [(3, .int .i64 t5), (5, .int .i64 t7), (39, .bool false)] (by kernel_rfl) (by kernel_rfl) ?_
        exact hj27 false w16 h (h15.pick [] (by decide))
  clear hJ18
  rcases of_cond h with ⟨hc10, h⟩ | ⟨hc10, h⟩
  · skip
    refine RegI.fix 18 true hc10 (by kernel_rfl) (by kernel_rfl) ?_
    refine RegI.pure 15 [3, 5, 33] [(3, .int .i64 t5), (5, .int .i64 t7), (33, .bool true)] (by kernel_rfl) ?_
    refine RegI.only [3, 5, 33] [(3, .int .i64 t5), (5, .int .i64 t7), (33, .bool true)] (by kernel_rfl) (by kernel_rfl) ?_
    exact hj19 true w1 h (h3.pick [] (by decide))
  · skip
    refine RegI.fix 18 false hc10 (by kernel_rfl) (by kernel_rfl) ?_
    refine RegI.pure 4 [0, 3, 5, 22] [(0, .int .u8 p0), (3, .int .i64 t5), (5, .int .i64 t7), (22, .bool (p0 == 32))] (by kernel_rfl) ?_
    rcases of_cond h with ⟨hc11, h⟩ | ⟨hc11, h⟩
    · skip
      refine RegI.fix 22 true hc11 (by kernel_rfl) (by kernel_rfl) ?_
      refine RegI.pure 11 [3, 5, 33] [(3, .int .i64 t5), (5, .int .i64 t7), (33, .bool true)] (by kernel_rfl) ?_
      refine RegI.only [3, 5, 33] [(3, .int .i64 t5), (5, .int .i64 t7), (33, .bool true)] (by kernel_rfl) (by kernel_rfl) ?_
      exact hj19 true w1 h (h3.pick [] (by decide))
    · skip
      refine RegI.fix 22 false hc11 (by kernel_rfl) (by kernel_rfl) ?_
      refine RegI.pure 4 [0, 3, 5, 26] [(0, .int .u8 p0), (3, .int .i64 t5), (5, .int .i64 t7), (26, .bool (p0 == 40))] (by kernel_rfl) ?_
      rcases of_cond h with ⟨hc12, h⟩ | ⟨hc12, h⟩
      · skip
        refine RegI.fix 26 true hc12 (by kernel_rfl) (by kernel_rfl) ?_
        refine RegI.pure 7 [3, 5, 33] [(3, .int .i64 t5), (5, .int .i64 t7), (33, .bool true)] (by kernel_rfl) ?_
        refine RegI.only [3, 5, 33] [(3, .int .i64 t5), (5, .int .i64 t7), (33, .bool true)] (by kernel_rfl) (by kernel_rfl) ?_
        exact hj19 true w1 h (h3.pick [] (by decide))
      · skip
        refine RegI.fix 26 false hc12 (by kernel_rfl) (by kernel_rfl) ?_
        refine RegI.pure 4 [0, 3, 5, 30] [(0, .int .u8 p0), (3, .int .i64 t5), (5, .int .i64 t7), (30, .bool (p0 == 48))] (by kernel_rfl) ?_
        rcases of_cond h with ⟨hc13, h⟩ | ⟨hc13, h⟩
        · skip
          refine RegI.fix 30 true hc13 (by kernel_rfl) (by kernel_rfl) ?_
          refine RegI.pure 3 [3, 5, 33] [(3, .int .i64 t5), (5, .int .i64 t7), (33, .bool true)] (by kernel_rfl) ?_
          refine RegI.only [3, 5, 33] [(3, .int .i64 t5), (5, .int .i64 t7), (33, .bool true)] (by kernel_rfl) (by kernel_rfl) ?_
          exact hj19 true w1 h (h3.pick [] (by decide))
        · skip
          refine RegI.fix 30 false hc13 (by kernel_rfl) (by kernel_rfl) ?_
          refine RegI.pure 3 [3, 5, 33] [(3, .int .i64 t5), (5, .int .i64 t7), (33, .bool (p0 == 56))] (by kernel_rfl) ?_
          refine RegI.only [3, 5, 33] [(3, .int .i64 t5), (5, .int .i64 t7), (33, .bool (p0 == 56))] (by kernel_rfl) (by kernel_rfl) ?_
          exact hj19 (p0 == 56) w1 h (h3.pick [] (by decide))
end

/-! ### charabanc/charabancref08.Near (function 25) -/
section
def charabancref08_Near_25.post (M0 : Nat → Prop) (w0 : World) (r : Bool) : Ending → World → Prop := fun e w => e = .returned (.bool r) ∧ Below w0.heap.size w0 w
def charabancref08_Near_25.f (K : Nat) (p0 : Int) (p1 : Int) : Option Bool := (charabancref08_Fields_22.f K p1).bind fun yt5 => Let (fun (t11 : Bool) => cond t11 (some true) (Let (fun (t19 : Bool) => cond t19 (cond (yt5.1 == 0) (cond (yt5.2.1 == 6) (cond (decide (yt5.2.2.1 ≥ 4)) (some (decide (yt5.2.2.1 ≤ 6))) (some false)) (some false)) (cond (yt5.1 == 1) (some ((yt5.2.2.1 == 6) != (yt5.2.1 == 6))) (cond (yt5.1 == 2) (some (yt5.2.2.1 == 6)) (some false)))) (some false)) (fun j22 => cond (p0 == 3) (j22 true) (j22 (p0 == 4))))) (fun j14 => cond (p0 == 5) (j14 true) (j14 (p0 == 6)))
set_option maxRecDepth 100000 in
theorem charabancref08_Near_25_ok (K : Nat) (M0 : Nat → Prop) (w0 : World) (p0 : Int) (p1 : Int) (ho : ∀ b, M0 b → b < w0.heap.size) {r : Bool} (h : charabancref08_Near_25.f K p0 p1 = some r) :
    Calls Tryd.prog 25 #[.int .i64 p0, .int .u8 p1] w0 (charabancref08_Near_25.post M0 w0 r) := by
  unfold charabancref08_Near_25.f at h
  have h0 : Holds M0 w0 w0 [] := Holds.start ho
  have h0 : Holds M0 w0 w0 [] := h0
  refine calls_of F25 rfl [.int .i64 p0, .int .u8 p1] (by kernel_rfl) ?_
  refine RunsI.go 1 [.c 1, .c 2] (by kernel_rfl) ?_
  refine RunsI.region (by kernel_rfl) ?_
  refine RegI.pure 1 [0, 1] [(0, .int .i64 p0), (1, .int .u8 p1)] (by kernel_rfl) ?_
  refine RegI.done (by kernel_rfl) ?_
  refine RunsI.go 1 [.c 3, .c 4] (by kernel_rfl) ?_
  refine RunsI.region (by kernel_rfl) ?_
  refine RegI.pure 1 [0, 11] [(0, .int .i64 p0), (11, .int .u8 p1)] (by kernel_rfl) ?_
  obtain ⟨⟨t5, t6, t7, t8, t9⟩, hg4, h⟩ := of_bind h
  dsimp only at h
  refine RegI.op (by kernel_rfl) (OpE.call 12 (by kernel_rfl) 22 #[.int .u8 p1] (by kernel_rfl) ((charabancref08_Fields_22_ok K _ w0  p1 h0.old' hg4).mono ?_))
  rintro _ w1 ⟨rfl, hb2⟩
  refine ⟨_, rfl, ?_⟩
  have h3 := h0.call hb2
  refine RegI.pure 11 [0, 5, 6, 7] [(0, .int .i64 p0), (5, .int .i64 t5), (6, .int .i64 t6), (7, .int .i64 t7)] (by kernel_rfl) ?_
  refine RegI.done (by kernel_rfl) ?_
  refine RunsI.go 2 [.c 6, .c 7, .c 48] (by kernel_rfl) ?_
  refine RunsI.region (by kernel_rfl) ?_
  refine RegI.pure 1 [5, 6, 7, 18] [(5, .int .i64 t5), (6, .int .i64 t6), (7, .int .i64 t7), (18, .int .i64 p0)] (by kernel_rfl) ?_
  refine RegI.done (by kernel_rfl) ?_
  refine RunsI.go 3 [.c 10, .c 11, .c 14, .blk 0, .c 48] (by kernel_rfl) ?_
  refine RunsI.region (by kernel_rfl) ?_
  refine RegI.pure 2 [5, 6, 7, 18, 19] [(5, .int .i64 t5), (6, .int .i64 t6), (7, .int .i64 t7), (18, .int .i64 p0), (19, .bool (p0 == 5))] (by kernel_rfl) ?_
  refine RegI.done (by kernel_rfl) ?_
  obtain ⟨j14, hJ15, h⟩ := of_let h
  have hj16 : ∀ (t11 : Bool) (w13 : World), j14 t11 = some r → Holds M0 w0 w13 [] → RunsI F25 [.c 14, .blk 0, .c 48] [(5, .int .i64 t5), (6, .int .i64 t6), (7, .int .i64 t7), (18, .int .i64 p0), (19, .bool t11)] w13 (charabancref08_Near_25.post M0 w0 r) := by
    intro t11 w13 h h12
    rw [hJ15] at h
    clear hJ15
    dsimp only at h
    rcases of_cond h with ⟨hc17, h⟩ | ⟨hc17, h⟩
    · skip
      refine RunsI.fix 19 true hc17 (by kernel_rfl) (by kernel_rfl) ?_
      refine RunsI.cond true 15 (by kernel_rfl) ?_
      refine RunsI.go 1 [.c 16, .c 17, .blk 0, .c 48] (by kernel_rfl) ?_
      refine RunsI.region (by kernel_rfl) ?_
      refine RegI.pure 1 [4] [(4, .bool true)] (by kernel_rfl) ?_
      refine RegI.done (by kernel_rfl) ?_
      refine RunsI.ret (.bool true) (by kernel_rfl) (by kernel_rfl) ?_
      obtain rfl := Option.some.inj h
      exact ⟨rfl, h12.below⟩
    · skip
      refine RunsI.fix 19 false hc17 (by kernel_rfl) (by kernel_rfl) ?_
      refine RunsI.cond false 18 (by kernel_rfl) ?_
      refine RunsI.go 2 [.c 20, .c 21, .c 24, .blk 0, .c 48] (by kernel_rfl) ?_
      refine RunsI.region (by kernel_rfl) ?_
      refine RegI.pure 2 [5, 6, 7, 18, 22] [(5, .int .i64 t5), (6, .int .i64 t6), (7, .int .i64 t7), (18, .int .i64 p0), (22, .bool (p0 == 3))] (by kernel_rfl) ?_
      refine RegI.done (by kernel_rfl) ?_
      obtain ⟨j22, hJ23, h⟩ := of_let h
      have hj24 : ∀ (t19 : Bool) (w21 : World), j22 t19 = some r → Holds M0 w0 w21 [] → RunsI F25 [.c 24, .blk 0, .c 48] [(5, .int .i64 t5), (6, .int .i64 t6), (7, .int .i64 t7), (22, .bool t19)] w21 (charabancref08_Near_25.post M0 w0 r) := by
        intro t19 w21 h h20
        rw [hJ23] at h
        clear hJ23
        dsimp only at h
        rcases of_cond h with ⟨hc25, h⟩ | ⟨hc25, h⟩
        · skip
          refine RunsI.fix 22 true hc25 (by kernel_rfl) (by kernel_rfl) ?_
          refine RunsI.cond true 25 (by kernel_rfl) ?_
          refine RunsI.go 1 [.c 26, .c 27, .blk 0, .c 48] (by kernel_rfl) ?_
          refine RunsI.region (by kernel_rfl) ?_
          refine RegI.pure 1 [6, 7, 25] [(6, .int .i64 t6), (7, .int .i64 t7), (25, .int .i64 t5)] (by kernel_rfl) ?_
          refine RegI.done (by kernel_rfl) ?_
          refine RunsI.go 2 [.c 29, .c 30, .blk 1, .blk 0, .c 48] (by kernel_rfl) ?_
          refine RunsI.region (by kernel_rfl) ?_
          refine RegI.pure 2 [6, 7, 25, 26] [(6, .int .i64 t6), (7, .int .i64 t7), (25, .int .i64 t5), (26, .bool (t5 == 0))] (by kernel_rfl) ?_
          refine RegI.done (by kernel_rfl) ?_
          rcases of_cond h with ⟨hc26, h⟩ | ⟨hc26, h⟩
          · skip
            refine RunsI.fix 26 true hc26 (by kernel_rfl) (by kernel_rfl) ?_
            refine RunsI.cond true 31 (by kernel_rfl) ?_
            refine RunsI.go 1 [.c 32, .c 33, .blk 1, .blk 0, .c 48] (by kernel_rfl) ?_
            refine RunsI.region (by kernel_rfl) ?_
            refine RegI.pure 3 [7, 30] [(7, .int .i64 t7), (30, .bool (t6 == 6))] (by kernel_rfl) ?_
            rcases of_cond h with ⟨hc27, h⟩ | ⟨hc27, h⟩
            · skip
              refine RegI.fix 30 true hc27 (by kernel_rfl) (by kernel_rfl) ?_
              refine RegI.pure 4 [7, 34] [(7, .int .i64 t7), (34, .bool (decide (t7 ≥ 4)))] (by kernel_rfl) ?_
              rcases of_cond h with ⟨hc28, h⟩ | ⟨hc28, h⟩
              · skip
                refine RegI.fix 34 true hc28 (by kernel_rfl) (by kernel_rfl) ?_
                refine RegI.pure 4 [4] [(4, .bool (decide (t7 ≤ 6)))] (by kernel_rfl) ?_
                refine RegI.done (by kernel_rfl) ?_
                refine RunsI.ret (.bool (decide (t7 ≤ 6))) (by kernel_rfl) (by kernel_rfl) ?_
                obtain rfl := Option.some.inj h
                exact ⟨rfl, h20.below⟩
              · skip
                refine RegI.fix 34 false hc28 (by kernel_rfl) (by kernel_rfl) ?_
                refine RegI.pure 4 [4] [(4, .bool false)] (by kernel_rfl) ?_
                refine RegI.done (by kernel_rfl) ?_
                refine RunsI.ret (.bool false) (by kernel_rfl) (by kernel_rfl) ?_
                obtain rfl := Option.some.inj h
                exact ⟨rfl, h20.below⟩
            · skip
              refine RegI.fix 30 false hc27 (by kernel_rfl) (by kernel_rfl) ?_
              refine RegI.pure 8 [4] [(4, .bool false)] (by kernel_rfl) ?_
              refine RegI.done (by kernel_rfl) ?_
              refine RunsI.ret (.bool false) (by kernel_rfl) (by kernel_rfl) ?_
              obtain rfl := Option.some.inj h
              exact ⟨rfl, h20.below⟩
          · skip
            refine RunsI.fix 26 false hc26 (by kernel_rfl) (by kernel_rfl) ?_
            refine RunsI.cond false 34 (by kernel_rfl) ?_
            refine RunsI.go 1 [.c 35, .c 36, .blk 1, .blk 0, .c 48] (by kernel_rfl) ?_
            refine RunsI.region (by kernel_rfl) ?_
            refine RegI.pure 2 [6, 7, 25, 38] [(6, .int .i64 t6), (7, .int .i64 t7), (25, .int .i64 t5), (38, .bool (t5 == 1))] (by kernel_rfl) ?_
            refine RegI.done (by kernel_rfl) ?_
            rcases of_cond h with ⟨hc29, h⟩ | ⟨hc29, h⟩
            · skip
              refine RunsI.fix 38 true hc29 (by kernel_rfl) (by kernel_rfl) ?_
              refine RunsI.cond true 37 (by kernel_rfl) ?_
              refine RunsI.go 1 [.c 38, .c 39, .blk 1, .blk 0, .c 48] (by kernel_rfl) ?_
              refine RunsI.region (by kernel_rfl) ?_
              refine RegI.pure 6 [4] [(4, .bool ((t7 == 6) != (t6 == 6)))] (by kernel_rfl) ?_
              refine RegI.done (by kernel_rfl) ?_
              refine RunsI.ret (.bool ((t7 == 6) != (t6 == 6))) (by kernel_rfl) (by kernel_rfl) ?_
              obtain rfl := Option.some.inj h
              exact ⟨rfl, h20.below⟩
            · skip
              refine RunsI.fix 38 false hc29 (by kernel_rfl) (by kernel_rfl) ?_
              refine RunsI.cond false 40 (by kernel_rfl) ?_
              refine RunsI.go 1 [.c 41, .c 42, .blk 1, .blk 0, .c 48] (by kernel_rfl) ?_
              refine RunsI.region (by kernel_rfl) ?_
              refine RegI.pure 2 [7, 45] [(7, .int .i64 t7), (45, .bool (t5 == 2))] (by kernel_rfl) ?_
              refine RegI.done (by kernel_rfl) ?_
              rcases of_cond h with ⟨hc30, h⟩ | ⟨hc30, h⟩
              · skip
                refine RunsI.fix 45 true hc30 (by kernel_rfl) (by kernel_rfl) ?_
                refine RunsI.cond true 43 (by kernel_rfl) ?_
                refine RunsI.go 1 [.c 44, .c 45, .blk 1, .blk 0, .c 48] (by kernel_rfl) ?_
                refine RunsI.region (by kernel_rfl) ?_
                refine RegI.pure 3 [4] [(4, .bool (t7 == 6))] (by kernel_rfl) ?_
                refine RegI.done (by kernel_rfl) ?_
                refine RunsI.ret (.bool (t7 == 6)) (by kernel_rfl) (by kernel_rfl) ?_
                obtain rfl := Option.some.inj h
                exact ⟨rfl, h20.below⟩
              · skip
                refine RunsI.fix 45 false hc30 (by kernel_rfl) (by kernel_rfl) ?_
                refine RunsI.cond false 46 (by kernel_rfl) ?_
                refine RunsI.go 1 [.blk 1, .blk 0, .c 48] (by kernel_rfl) ?_
                refine RunsI.go 1 [.blk 0, .c 48] (by kernel_rfl) ?_
                refine RunsI.go 2 [.c 49, .c 50] (by kernel_rfl) ?_
                refine RunsI.region (by kernel_rfl) ?_
                refine RegI.pure 1 [4] [(4, .bool false)] (by kernel_rfl) ?_
                refine RegI.done (by kernel_rfl) ?_
                refine RunsI.ret (.bool false) (by kernel_rfl) (by kernel_rfl) ?_
                obtain rfl := Option.some.inj h
                exact ⟨rfl, h20.below⟩
        · skip
          refine RunsI.fix 22 false hc25 (by kernel_rfl) (by kernel_rfl) ?_
          refine RunsI.cond false 47 (by kernel_rfl) ?_
          refine RunsI.go 1 [.blk 0, .c 48] (by kernel_rfl) ?_
          refine RunsI.go 2 [.c 49, .c 50] (by kernel_rfl) ?_
          refine RunsI.region (by kernel_rfl) ?_
          refine RegI.pure 1 [4] [(4, .bool false)] (by kernel_rfl) ?_
          refine RegI.done (by kernel_rfl) ?_
          refine RunsI.ret (.bool false) (by kernel_rfl) (by kernel_rfl) ?_
          obtain rfl := Option.some.inj h
          exact ⟨rfl, h20.below⟩
      clear hJ23
      rcases of_cond h with ⟨hc18, h⟩ | ⟨hc18, h⟩
      · skip
        refine RunsI.fix 22 true hc18 (by kernel_rfl) (by kernel_rfl) ?_
        refine RunsI.cond true 22 (by kernel_rfl) ?_
        refine RunsI.go 1 [.c 24, .blk 0, .c 48] (by kernel_rfl) ?_
        refine RunsI.only [5, 6, 7, 22] [(5, .int .i64 t5), (6, .int .i64 t6), (7, .int .i64 t7), (22, .bool true)] (by kernel_rfl) (by kernel_rfl) ?_
        exact hj24 true w13 h (h12.pick [] (by decide))
      · skip
        refine RunsI.fix 22 false hc18 (by kernel_rfl) (by kernel_rfl) ?_
        refine RunsI.cond false 23 (by kernel_rfl) ?_
        refine RunsI.region (by kernel_rfl) ?_
        refine RegI.pure 2 [5, 6, 7, 22] [(5, .int .i64 t5), (6, .int .i64 t6), (7, .int .i64 t7), (22, .bool (p0 == 4))] (by kernel_rfl) ?_
        refine RegI.done (by kernel_rfl) ?_
        refine RunsI.only [5, 6, 7, 22] [(5, .int .i64 t5), (6, .int .i64 t6), (7, .int .i64 t7), (22, .bool (p0 == 4))] (by kernel_rfl) (by kernel_rfl) ?_
        exact hj24 (p0 == 4) w13 h (h12.pick [] (by decide))
  clear hJ15
  rcases of_cond h with ⟨hc10, h⟩ | ⟨hc10, h⟩
  · skip
    refine RunsI.fix 19 true hc10 (by kernel_rfl) (by kernel_rfl) ?_
    refine RunsI.cond true 12 (by kernel_rfl) ?_
    refine RunsI.go 1 [.c 14, .blk 0, .c 48] (by kernel_rfl) ?_
    refine RunsI.only [5, 6, 7, 18, 19] [(5, .int .i64 t5), (6, .int .i64 t6), (7, .int .i64 t7), (18, .int .i64 p0), (19, .bool true)] (by kernel_rfl) (by kernel_rfl) ?_
    exact hj16 true w1 h (h3.pick [] (by decide))
  · skip
    refine RunsI.fix 19 false hc10 (by kernel_rfl) (by kernel_rfl) ?_
    refine RunsI.cond false 13 (by kernel_rfl) ?_
    refine RunsI.region (by kernel_rfl) ?_
    refine RegI.pure 2 [5, 6, 7, 18, 19] [(5, .int .i64 t5), (6, .int .i64 t6), (7, .int .i64 t7), (18, .int .i64 p0), (19, .bool (p0 == 6))] (by kernel_rfl) ?_
    refine RegI.done (by kernel_rfl) ?_
    refine RunsI.only [5, 6, 7, 18, 19] [(5, .int .i64 t5), (6, .int .i64 t6), (7, .int .i64 t7), (18, .int .i64 p0), (19, .bool (p0 == 6))] (by kernel_rfl) (by kernel_rfl) ?_
    exact hj16 (p0 == 6) w1 h (h3.pick [] (by decide))
end

/-! ### charabanc/charabancref10.ed (function 26) -/
section
def charabancref10_ed_26.post (M0 : Nat → Prop) (w0 : World) (r : Int) : Ending → World → Prop := fun e w => e = .returned (.int .i64 r) ∧ Below w0.heap.size w0 w
def charabancref10_ed_26.f (K : Nat) (p0 : Int) (p1 : Int) (p2 : Int) (p3 : Bool) : Option Int := Let (fun (t3 : Bool) => cond t3 (Let (fun (t11 : Bool) => cond t11 (some 21) (some 16)) (fun j14 => cond (decide (p1 > 5)) (j14 p3) (j14 false))) (cond (p0 != 1) (some 8) (Let (fun (t27 : Bool) => cond t27 (some 9) (Let (fun (t35 : Bool) => cond t35 (some 18) (cond (inR p2 ([12, 12, 15, 20, 8, 14, 8, 8] : List Int).length) (some (rdD ([12, 12, 15, 20, 8, 14, 8, 8] : List Int) p2)) none)) (fun j38 => cond (p2 == 7) (j38 (decide (p1 < 6))) (j38 false)))) (fun j30 => cond (p2 == 7) (j30 (decide (p1 < 4))) (j30 false))))) (fun j6 => cond (p0 == 2) (cond (decide (p2 < 4)) (j6 (decide (p1 > 3))) (j6 false)) (j6 false))
set_option maxRecDepth 100000 in
theorem charabancref10_ed_26_ok (K : Nat) (M0 : Nat → Prop) (w0 : World) (p0 : Int) (p1 : Int) (p2 : Int) (p3 : Bool) (ho : ∀ b, M0 b → b < w0.heap.size) {r : Int} (h : charabancref10_ed_26.f K p0 p1 p2 p3 = some r) :
    Calls Tryd.prog 26 #[.int .i64 p0, .int .i64 p1, .int .i64 p2, .bool p3] w0 (charabancref10_ed_26.post M0 w0 r) := by
  unfold charabancref10_ed_26.f at h
  have h0 : Holds M0 w0 w0 [] := Holds.start ho
  have h0 : Holds M0 w0 w0 [] := h0
  refine calls_of F26 rfl [.int .i64 p0, .int .i64 p1, .int .i64 p2, .bool p3] (by kernel_rfl) ?_
  refine RunsI.go 1 [.c 1, .c 2] (by kernel_rfl) ?_
  refine RunsI.region (by kernel_rfl) ?_
  refine RegI.pure 1 [0, 1, 2, 3] [(0, .int .i64 p0), (1, .int .i64 p1), (2, .int .i64 p2), (3, .bool p3)] (by kernel_rfl) ?_
  refine RegI.done (by kernel_rfl) ?_
  refine RunsI.go 2 [.c 4, .c 5, .c 18] (by kernel_rfl) ?_
  refine RunsI.region (by kernel_rfl) ?_
  refine RegI.pure 3 [0, 1, 2, 3, 12] [(0, .int .i64 p0), (1, .int .i64 p1), (2, .int .i64 p2), (3, .bool p3), (12, .bool (p0 == 2))] (by kernel_rfl) ?_
  obtain ⟨j6, hJ7, h⟩ := of_let h
  have hj8 : ∀ (t3 : Bool) (w5 : World), j6 t3 = some r → Holds M0 w0 w5 [] → RegI F26 4 [.c 5, .c 18] 10 [(0, .int .i64 p0), (1, .int .i64 p1), (2, .int .i64 p2), (3, .bool p3), (19, .bool t3)] w5 (charabancref10_ed_26.post M0 w0 r) := by
    intro t3 w5 h h4
    rw [hJ7] at h
    clear hJ7
    dsimp only at h
    refine RegI.done (by kernel_rfl) ?_
    rcases of_cond h with ⟨hc9, h⟩ | ⟨hc9, h⟩
    · skip
      refine RunsI.fix 19 true hc9 (by kernel_rfl) (by kernel_rfl) ?_
      refine RunsI.cond true 6 (by kernel_rfl) ?_
      refine RunsI.go 2 [.c 8, .c 9, .c 14, .c 18] (by kernel_rfl) ?_
      refine RunsI.region (by kernel_rfl) ?_
      refine RegI.pure 3 [3, 22] [(3, .bool p3), (22, .bool (decide (p1 > 5)))] (by kernel_rfl) ?_
      obtain ⟨j14, hJ15, h⟩ := of_let h
      have hj16 : ∀ (t11 : Bool) (w13 : World), j14 t11 = some r → Holds M0 w0 w13 [] → RegI F26 8 [.c 9, .c 14, .c 18] 5 [(24, .bool t11)] w13 (charabancref10_ed_26.post M0 w0 r) := by
        intro t11 w13 h h12
        rw [hJ15] at h
        clear hJ15
        dsimp only at h
        refine RegI.done (by kernel_rfl) ?_
        rcases of_cond h with ⟨hc17, h⟩ | ⟨hc17, h⟩
        · skip
          refine RunsI.fix 24 true hc17 (by kernel_rfl) (by kernel_rfl) ?_
          refine RunsI.cond true 10 (by kernel_rfl) ?_
          refine RunsI.go 1 [.c 11, .c 12, .c 14, .c 18] (by kernel_rfl) ?_
          refine RunsI.region (by kernel_rfl) ?_
          refine RegI.pure 1 [8] [(8, .int .i64 21)] (by kernel_rfl) ?_
          refine RegI.done (by kernel_rfl) ?_
          refine RunsI.ret (.int .i64 21) (by kernel_rfl) (by kernel_rfl) ?_
          obtain rfl := Option.some.inj h
          exact ⟨rfl, h12.below⟩
        · skip
          refine RunsI.fix 24 false hc17 (by kernel_rfl) (by kernel_rfl) ?_
          refine RunsI.cond false 13 (by kernel_rfl) ?_
          refine RunsI.go 1 [.c 14, .c 18] (by kernel_rfl) ?_
          refine RunsI.go 1 [.c 15, .c 16, .c 18] (by kernel_rfl) ?_
          refine RunsI.region (by kernel_rfl) ?_
          refine RegI.pure 1 [8] [(8, .int .i64 16)] (by kernel_rfl) ?_
          refine RegI.done (by kernel_rfl) ?_
          refine RunsI.ret (.int .i64 16) (by kernel_rfl) (by kernel_rfl) ?_
          obtain rfl := Option.some.inj h
          exact ⟨rfl, h12.below⟩
      clear hJ15
      rcases of_cond h with ⟨hc10, h⟩ | ⟨hc10, h⟩
      · skip
        refine RegI.fix 22 true hc10 (by kernel_rfl) (by kernel_rfl) ?_
        refine RegI.pure 2 [24] [(24, .bool p3)] (by kernel_rfl) ?_
        refine RegI.only [24] [(24, .bool p3)] (by kernel_rfl) (by kernel_rfl) ?_
        exact hj16 p3 w5 h (h4.pick [] (by decide))
      · skip
        refine RegI.fix 22 false hc10 (by kernel_rfl) (by kernel_rfl) ?_
        refine RegI.pure 2 [24] [(24, .bool false)] (by kernel_rfl) ?_
        refine RegI.only [24] [(24, .bool false)] (by kernel_rfl) (by kernel_rfl) ?_
        exact hj16 false w5 h (h4.pick [] (by decide))
    · skip
      refine RunsI.fix 19 false hc9 (by kernel_rfl) (by kernel_rfl) ?_
      refine RunsI.cond false 17 (by kernel_rfl) ?_
      refine RunsI.go 1 [.c 18] (by kernel_rfl) ?_
      refine RunsI.go 2 [.c 20, .c 21, .c 26] (by kernel_rfl) ?_
      refine RunsI.region (by kernel_rfl) ?_
      refine RegI.pure 2 [1, 2, 26] [(1, .int .i64 p1), (2, .int .i64 p2), (26, .bool (p0 != 1))] (by kernel_rfl) ?_
      refine RegI.done (by kernel_rfl) ?_
      rcases of_cond h with ⟨hc18, h⟩ | ⟨hc18, h⟩
      · skip
        refine RunsI.fix 26 true hc18 (by kernel_rfl) (by kernel_rfl) ?_
        refine RunsI.cond true 22 (by kernel_rfl) ?_
        refine RunsI.go 1 [.c 23, .c 24, .c 26] (by kernel_rfl) ?_
        refine RunsI.region (by kernel_rfl) ?_
        refine RegI.pure 1 [8] [(8, .int .i64 8)] (by kernel_rfl) ?_
        refine RegI.done (by kernel_rfl) ?_
        refine RunsI.ret (.int .i64 8) (by kernel_rfl) (by kernel_rfl) ?_
        obtain rfl := Option.some.inj h
        exact ⟨rfl, h4.below⟩
      · skip
        refine RunsI.fix 26 false hc18 (by kernel_rfl) (by kernel_rfl) ?_
        refine RunsI.cond false 25 (by kernel_rfl) ?_
        refine RunsI.go 1 [.c 26] (by kernel_rfl) ?_
        refine RunsI.go 1 [.c 27, .c 28] (by kernel_rfl) ?_
        refine RunsI.region (by kernel_rfl) ?_
        refine RegI.op (by kernel_rfl) (OpE.lit 27 3 [.int .i64 12, .int .i64 12, .int .i64 15, .int .i64 20, .int .i64 8, .int .i64 14, .int .i64 8, .int .i64 8] 8 h4 (by kernel_rfl) (by kernel_rfl) ?_)
        intro w19 b20 h21 hb22 hn23
        refine RegI.pure 1 [1, 2, 9] [(1, .int .i64 p1), (2, .int .i64 p2), (9, .slice (some ⟨b20, 0, none⟩) (([12, 12, 15, 20, 8, 14, 8, 8] : List Int).length) 8)] (by kernel_rfl) ?_
        refine RegI.done (by kernel_rfl) ?_
        refine RunsI.go 2 [.c 30, .c 31, .c 36] (by kernel_rfl) ?_
        refine RunsI.region (by kernel_rfl) ?_
        refine RegI.pure 3 [1, 2, 9, 30] [(1, .int .i64 p1), (2, .int .i64 p2), (9, .slice (some ⟨b20, 0, none⟩) (([12, 12, 15, 20, 8, 14, 8, 8] : List Int).length) 8), (30, .bool (p2 == 7))] (by kernel_rfl) ?_
        obtain ⟨j30, hJ31, h⟩ := of_let h
        have hj32 : ∀ (t27 : Bool) (w29 : World), j30 t27 = some r → Holds M0 w0 w29 [own (Rp.int .i64) 3 (.slice (some ⟨b20, 0, none⟩) (([12, 12, 15, 20, 8, 14, 8, 8] : List Int).length) 8) ([12, 12, 15, 20, 8, 14, 8, 8] : List Int)] → RegI F26 30 [.c 31, .c 36] 6 [(1, .int .i64 p1), (2, .int .i64 p2), (9, .slice (some ⟨b20, 0, none⟩) (([12, 12, 15, 20, 8, 14, 8, 8] : List Int).length) 8), (33, .bool t27)] w29 (charabancref10_ed_26.post M0 w0 r) := by
          intro t27 w29 h h28
          rw [hJ31] at h
          clear hJ31
          dsimp only at h
          refine RegI.done (by kernel_rfl) ?_
          rcases of_cond h with ⟨hc33, h⟩ | ⟨hc33, h⟩
          · skip
            refine RunsI.fix 33 true hc33 (by kernel_rfl) (by kernel_rfl) ?_
            refine RunsI.cond true 32 (by kernel_rfl) ?_
            refine RunsI.go 1 [.c 33, .c 34, .c 36] (by kernel_rfl) ?_
            refine RunsI.region (by kernel_rfl) ?_
            refine RegI.pure 1 [8] [(8, .int .i64 9)] (by kernel_rfl) ?_
            refine RegI.done (by kernel_rfl) ?_
            refine RunsI.ret (.int .i64 9) (by kernel_rfl) (by kernel_rfl) ?_
            obtain rfl := Option.some.inj h
            exact ⟨rfl, h28.below⟩
          · skip
            refine RunsI.fix 33 false hc33 (by kernel_rfl) (by kernel_rfl) ?_
            refine RunsI.cond false 35 (by kernel_rfl) ?_
            refine RunsI.go 1 [.c 36] (by kernel_rfl) ?_
            refine RunsI.go 2 [.c 38, .c 39, .c 44] (by kernel_rfl) ?_
            refine RunsI.region (by kernel_rfl) ?_
            refine RegI.pure 3 [1, 2, 9, 36] [(1, .int .i64 p1), (2, .int .i64 p2), (9, .slice (some ⟨b20, 0, none⟩) (([12, 12, 15, 20, 8, 14, 8, 8] : List Int).length) 8), (36, .bool (p2 == 7))] (by kernel_rfl) ?_
            obtain ⟨j38, hJ39, h⟩ := of_let h
            have hj40 : ∀ (t35 : Bool) (w37 : World), j38 t35 = some r → Holds M0 w0 w37 [own (Rp.int .i64) 3 (.slice (some ⟨b20, 0, none⟩) (([12, 12, 15, 20, 8, 14, 8, 8] : List Int).length) 8) ([12, 12, 15, 20, 8, 14, 8, 8] : List Int)] → RegI F26 38 [.c 39, .c 44] 6 [(2, .int .i64 p2), (9, .slice (some ⟨b20, 0, none⟩) (([12, 12, 15, 20, 8, 14, 8, 8] : List Int).length) 8), (39, .bool t35)] w37 (charabancref10_ed_26.post M0 w0 r) := by
              intro t35 w37 h h36
              rw [hJ39] at h
              clear hJ39
              dsimp only at h
              refine RegI.done (by kernel_rfl) ?_
              rcases of_cond h with ⟨hc41, h⟩ | ⟨hc41, h⟩
              · skip
                refine RunsI.fix 39 true hc41 (by kernel_rfl) (by kernel_rfl) ?_
                refine RunsI.cond true 40 (by kernel_rfl) ?_
                refine RunsI.go 1 [.c 41, .c 42, .c 44] (by kernel_rfl) ?_
                refine RunsI.region (by kernel_rfl) ?_
                refine RegI.pure 1 [8] [(8, .int .i64 18)] (by kernel_rfl) ?_
                refine RegI.done (by kernel_rfl) ?_
                refine RunsI.ret (.int .i64 18) (by kernel_rfl) (by kernel_rfl) ?_
                obtain rfl := Option.some.inj h
                exact ⟨rfl, h36.below⟩
              · skip
                refine RunsI.fix 39 false hc41 (by kernel_rfl) (by kernel_rfl) ?_
                refine RunsI.cond false 43 (by kernel_rfl) ?_
                refine RunsI.go 1 [.c 44] (by kernel_rfl) ?_
                refine RunsI.go 1 [.c 45, .c 46] (by kernel_rfl) ?_
                refine RunsI.region (by kernel_rfl) ?_
                refine RegI.pure 2 [40, 41] [(40, .slice (some ⟨b20, 0, none⟩) (([12, 12, 15, 20, 8, 14, 8, 8] : List Int).length) 8), (41, .int .i64 p2)] (by kernel_rfl) ?_
                obtain ⟨hc42, h⟩ := of_cond0 h
                refine RegI.op (by kernel_rfl) (OpE.idxOwnA 42 0 52 3 p2 h36 (by kernel_rfl) rfl (by kernel_rfl) (by kernel_rfl) hc42 ?_)
                refine RegI.op (by kernel_rfl) (OpE.loadOwnA 43 0 3 3 p2 0 (o := (Int.toNat p2) * 1 + 0) h36 (by kernel_rfl) rfl (by kernel_rfl) (by kernel_rfl) hc42 (fun cs43 hk44 => ?_))
                obtain rfl := hk44
                refine ⟨.int .i64 (rdD ([12, 12, 15, 20, 8, 14, 8, 8] : List Int) p2), by kernel_rfl, ?_⟩
                refine RegI.pure 1 [8] [(8, .int .i64 (rdD ([12, 12, 15, 20, 8, 14, 8, 8] : List Int) p2))] (by kernel_rfl) ?_
                refine RegI.done (by kernel_rfl) ?_
                refine RunsI.ret (.int .i64 (rdD ([12, 12, 15, 20, 8, 14, 8, 8] : List Int) p2)) (by kernel_rfl) (by kernel_rfl) ?_
                obtain rfl := Option.some.inj h
                exact ⟨rfl, h36.below⟩
            clear hJ39
            rcases of_cond h with ⟨hc34, h⟩ | ⟨hc34, h⟩
            · skip
              refine RegI.fix 36 true hc34 (by kernel_rfl) (by kernel_rfl) ?_
              refine RegI.pure 3 [2, 9, 39] [(2, .int .i64 p2), (9, .slice (some ⟨b20, 0, none⟩) (([12, 12, 15, 20, 8, 14, 8, 8] : List Int).length) 8), (39, .bool (decide (p1 < 6)))] (by kernel_rfl) ?_
              refine RegI.only [2, 9, 39] [(2, .int .i64 p2), (9, .slice (some ⟨b20, 0, none⟩) (([12, 12, 15, 20, 8, 14, 8, 8] : List Int).length) 8), (39, .bool (decide (p1 < 6)))] (by kernel_rfl) (by kernel_rfl) ?_
              exact hj40 (decide (p1 < 6)) w29 h (h28.pick [0] (by decide))
            · skip
              refine RegI.fix 36 false hc34 (by kernel_rfl) (by kernel_rfl) ?_
              refine RegI.pure 3 [2, 9, 39] [(2, .int .i64 p2), (9, .slice (some ⟨b20, 0, none⟩) (([12, 12, 15, 20, 8, 14, 8, 8] : List Int).length) 8), (39, .bool false)] (by kernel_rfl) ?_
              refine RegI.only [2, 9, 39] [(2, .int .i64 p2), (9, .slice (some ⟨b20, 0, none⟩) (([12, 12, 15, 20, 8, 14, 8, 8] : List Int).length) 8), (39, .bool false)] (by kernel_rfl) (by kernel_rfl) ?_
              exact hj40 false w29 h (h28.pick [0] (by decide))
        clear hJ31
        rcases of_cond h with ⟨hc24, h⟩ | ⟨hc24, h⟩
        · skip
          refine RegI.fix 30 true hc24 (by kernel_rfl) (by kernel_rfl) ?_
          refine RegI.pure 3 [1, 2, 9, 33] [(1, .int .i64 p1), (2, .int .i64 p2), (9, .slice (some ⟨b20, 0, none⟩) (([12, 12, 15, 20, 8, 14, 8, 8] : List Int).length) 8), (33, .bool (decide (p1 < 4)))] (by kernel_rfl) ?_
          have h25 := h21.boxOwn 0 rfl (Rp.int .i64) ([12, 12, 15, 20, 8, 14, 8, 8] : List Int) (cells_int _ _ _ _) (Nat.le_of_ble_eq_true (by kernel_rfl))
          refine RegI.only [1, 2, 9, 33] [(1, .int .i64 p1), (2, .int .i64 p2), (9, .slice (some ⟨b20, 0, none⟩) (([12, 12, 15, 20, 8, 14, 8, 8] : List Int).length) 8), (33, .bool (decide (p1 < 4)))] (by kernel_rfl) (by kernel_rfl) ?_
          exact hj32 (decide (p1 < 4)) w19 h (h25.pick [0] (by decide))
        · skip
          refine RegI.fix 30 false hc24 (by kernel_rfl) (by kernel_rfl) ?_
          refine RegI.pure 3 [1, 2, 9, 33] [(1, .int .i64 p1), (2, .int .i64 p2), (9, .slice (some ⟨b20, 0, none⟩) (([12, 12, 15, 20, 8, 14, 8, 8] : List Int).length) 8), (33, .bool false)] (by kernel_rfl) ?_
          have h26 := h21.boxOwn 0 rfl (Rp.int .i64) ([12, 12, 15, 20, 8, 14, 8, 8] : List Int) (cells_int _ _ _ _) (Nat.le_of_ble_eq_true (by kernel_rfl))
          refine RegI.only [1, 2, 9, 33] [(1, .int .i64 p1), (2, .int .i64 p2), (9, .slice (some ⟨b20, 0, none⟩) (([12, 12, 15, 20, 8, 14, 8, 8] : List Int).length) 8), (33, .bool false)] (by kernel_rfl) (by kernel_rfl) ?_
          exact hj32 false w19 h (h26.pick [0] (by decide))
  clear hJ7
  rcases of_cond h with ⟨hc1, h⟩ | ⟨hc1, h⟩
  · skip
    refine RegI.fix 12 true hc1 (by kernel_rfl) (by kernel_rfl) ?_
    refine RegI.pure 4 [0, 1, 2, 3, 16] [(0, .int .i64 p0), (1, .int .i64 p1), (2, .int .i64 p2), (3, .bool p3), (16, .bool (decide (p2 < 4)))] (by kernel_rfl) ?_
    rcases of_cond h with ⟨hc2, h⟩ | ⟨hc2, h⟩
    · skip
      refine RegI.fix 16 true hc2 (by kernel_rfl) (by kernel_rfl) ?_
      refine RegI.pure 3 [0, 1, 2, 3, 19] [(0, .int .i64 p0), (1, .int .i64 p1), (2, .int .i64 p2), (3, .bool p3), (19, .bool (decide (p1 > 3)))] (by kernel_rfl) ?_
      refine RegI.only [0, 1, 2, 3, 19] [(0, .int .i64 p0), (1, .int .i64 p1), (2, .int .i64 p2), (3, .bool p3), (19, .bool (decide (p1 > 3)))] (by kernel_rfl) (by kernel_rfl) ?_
      exact hj8 (decide (p1 > 3)) w0 h (h0.pick [] (by decide))
    · skip
      refine RegI.fix 16 false hc2 (by kernel_rfl) (by kernel_rfl) ?_
      refine RegI.pure 3 [0, 1, 2, 3, 19] [(0, .int .i64 p0), (1, .int .i64 p1), (2, .int .i64 p2), (3, .bool p3), (19, .bool false)] (by kernel_rfl) ?_
      refine RegI.only [0, 1, 2, 3, 19] [(0, .int .i64 p0), (1, .int .i64 p1), (2, .int .i64 p2), (3, .bool p3), (19, .bool false)] (by kernel_rfl) (by kernel_rfl) ?_
      exact hj8 false w0 h (h0.pick [] (by decide))
  · skip
    refine RegI.fix 12 false hc1 (by kernel_rfl) (by kernel_rfl) ?_
    refine RegI.pure 7 [0, 1, 2, 3, 19] [(0, .int .i64 p0), (1, .int .i64 p1), (2, .int .i64 p2), (3, .bool p3), (19, .bool false)] (by kernel_rfl) ?_
    refine RegI.only [0, 1, 2, 3, 19] [(0, .int .i64 p0), (1, .int .i64 p1), (2, .int .i64 p2), (3, .bool p3), (19, .bool false)] (by kernel_rfl) (by kernel_rfl) ?_
    exact hj8 false w0 h (h0.pick [] (by decide))
end

/-! ### charabanc/charabancref10.Of (function 10) -/
section
def charabancref10_Of_10.post (M0 : Nat → Prop) (w0 : World) (r : Int) : Ending → World → Prop := fun e w => e = .returned (.int .i64 r) ∧ Below w0.heap.size w0 w
def charabancref10_Of_10.f (K : Nat) (p0_0 : Int) (p0_1 : Int) (p0_2 : Int) (p0_3 : Int) (p0_4 : Int) (p0_5 : Int) (p1 : Bool) : Option Int := (charabancref08_Fields_22.f K p0_1).bind fun yt10 => (charabancref10_row_23.f K (IntKind.wrap .i64 (Int.tdiv (IntKind.wrap .i64 p0_1) 16))).bind fun t20 => cond (Nat.beq t20.length 16 && inR (Int.tmod (IntKind.wrap .i64 p0_1) 16) t20.length) (Let (fun (t31 : Int) => cond (p0_0 == 0) (some (IntKind.wrap .i64 (t31 + (IntKind.wrap .i64 (4 * p0_5))))) (Let (fun (t39 : Bool) => cond t39 ((charabancref08_Near_25.f K p0_0 p0_1).bind fun t50 => Let (fun (t52 : Int) => cond (p0_1 == 54) (some (IntKind.wrap .i64 ((IntKind.wrap .i64 (t52 - 3)) + (IntKind.wrap .i64 (4 * p0_5))))) (some (IntKind.wrap .i64 (t52 + (IntKind.wrap .i64 (4 * p0_5)))))) (fun j55 => cond t50 (j55 (IntKind.wrap .i64 ((IntKind.wrap .i64 (t31 + 4)) + 8))) (j55 (IntKind.wrap .i64 (t31 + 4))))) (cond (p0_0 == 1) (Let (fun (t61 : Int) => Let (fun (t68 : Bool) => cond t68 (some (IntKind.wrap .i64 (12 + (IntKind.wrap .i64 (4 * p0_5))))) (some (IntKind.wrap .i64 (t61 + (IntKind.wrap .i64 (4 * p0_5)))))) (fun j71 => cond (yt10.2.2.1 == 6) (j71 (yt10.1 == 1)) (j71 false))) (fun j64 => cond (yt10.2.2.1 == 6) (j64 15) (j64 8))) (Let (fun (t76 : Bool) => cond t76 (cond (yt10.1 == 1) (some (IntKind.wrap .i64 (20 + (IntKind.wrap .i64 (4 * p0_5))))) (some (IntKind.wrap .i64 (23 + (IntKind.wrap .i64 (4 * p0_5)))))) (cond (p0_0 == 2) ((charabancref10_ed_26.f K yt10.1 yt10.2.1 yt10.2.2.1 p1).bind fun t89 => some (IntKind.wrap .i64 (t89 + (IntKind.wrap .i64 (4 * p0_5))))) (some 0))) (fun j79 => cond (p0_0 == 5) (j79 true) (j79 (p0_0 == 6)))))) (fun j42 => cond (p0_0 == 3) (j42 true) (j42 (p0_0 == 4))))) (fun j34 => cond p1 ((charabancref10_more_24.f K p0_1).bind fun t30 => j34 (IntKind.wrap .i64 ((rdD t20 (Int.tmod (IntKind.wrap .i64 p0_1) 16)) + t30))) (j34 (rdD t20 (Int.tmod (IntKind.wrap .i64 p0_1) 16))))) none
set_option maxRecDepth 100000 in
theorem charabancref10_Of_10_ok (K : Nat) (M0 : Nat → Prop) (w0 : World) (p0_0 : Int) (p0_1 : Int) (p0_2 : Int) (p0_3 : Int) (p0_4 : Int) (p0_5 : Int) (p1 : Bool) (ho : ∀ b, M0 b → b < w0.heap.size) {r : Int} (h : charabancref10_Of_10.f K p0_0 p0_1 p0_2 p0_3 p0_4 p0_5 p1 = some r) :
    Calls Tryd.prog 10 #[.agg #[.int .i64 p0_0, .int .u8 p0_1, .int .u8 p0_2, .int .u16 p0_3, .int .i64 p0_4, .int .i64 p0_5], .bool p1] w0 (charabancref10_Of_10.post M0 w0 r) := by
  unfold charabancref10_Of_10.f at h
  have h0 : Holds M0 w0 w0 [] := Holds.start ho
  have h0 : Holds M0 w0 w0 [] := h0
  refine calls_of F10 rfl [.agg #[.int .i64 p0_0, .int .u8 p0_1, .int .u8 p0_2, .int .u16 p0_3, .int .i64 p0_4, .int .i64 p0_5], .bool p1] (by kernel_rfl) ?_
  refine RunsI.go 1 [.c 1, .c 2] (by kernel_rfl) ?_
  refine RunsI.region (by kernel_rfl) ?_
  refine RegI.op (by kernel_rfl) (OpE.box 2 24 [.int .i64 p0_0, .int .u8 p0_1, .int .u8 p0_2, .int .u16 p0_3, .int .i64 p0_4, .int .i64 p0_5] h0 (by kernel_rfl) (by kernel_rfl) ?_)
  intro w1 b2 h3 hb4 hn5
  refine RegI.pure 1 [1, 2] [(1, .bool p1), (2, .pointer (some ⟨b2, 0, none⟩))] (by kernel_rfl) ?_
  refine RegI.done (by kernel_rfl) ?_
  refine RunsI.go 1 [.c 3, .c 4] (by kernel_rfl) ?_
  refine RunsI.region (by kernel_rfl) ?_
  refine RegI.pure 1 [1, 2, 13] [(1, .bool p1), (2, .pointer (some ⟨b2, 0, none⟩)), (13, .pointer (some ⟨b2, 1, none⟩))] (by kernel_rfl) ?_
  refine RegI.op (by kernel_rfl) (OpE.loadBox 14 0 5 b2 1 (.int .u8 p0_1) h3 (by kernel_rfl) (by kernel_rfl) rfl (by kernel_rfl) ?_)
  obtain ⟨⟨t10, t11, t12, t13, t14⟩, hg9, h⟩ := of_bind h
  dsimp only at h
  refine RegI.op (by kernel_rfl) (OpE.call 15 (by kernel_rfl) 22 #[.int .u8 p0_1] (by kernel_rfl) ((charabancref08_Fields_22_ok K _ w1  p0_1 h3.old' hg9).mono ?_))
  rintro _ w6 ⟨rfl, hb7⟩
  refine ⟨_, rfl, ?_⟩
  have h8 := h3.call hb7
  refine RegI.pure 11 [1, 2, 5, 6, 7] [(1, .bool p1), (2, .pointer (some ⟨b2, 0, none⟩)), (5, .int .i64 t10), (6, .int .i64 t11), (7, .int .i64 t12)] (by kernel_rfl) ?_
  refine RegI.done (by kernel_rfl) ?_
  refine RunsI.go 1 [.c 5, .c 6] (by kernel_rfl) ?_
  refine RunsI.any 11 (by kernel_rfl) (by kernel_rfl) (by kernel_rfl) (Kp ([] : List Nat) (World.drew w6)) ?_
  have h16 := h8.drew
  generalize World.drew w6 = w15 at h16 ⊢
  have hS17 := Kp.refl ([] : List Nat) w15
  refine AnyE.pure 0 21 (.pointer (some ⟨b2, 1, none⟩)) (by kernel_rfl) hS17 (fun _ => by kernel_rfl) ?_
  refine AnyE.loadBox 1 22 0 5 b2 1 (.int .u8 p0_1) [] h16 rfl (by kernel_rfl) hS17 rfl rfl (by kernel_rfl) (by kernel_rfl) ?_
  refine AnyE.pure 2 23 (.int .i64 (IntKind.wrap .i64 p0_1)) (by kernel_rfl) hS17 (fun _ => by kernel_rfl) ?_
  refine AnyE.pure 3 24 (.int .i64 (IntKind.wrap .i64 (Int.tdiv (IntKind.wrap .i64 p0_1) 16))) (by kernel_rfl) hS17 (fun _ => by kernel_rfl) ?_
  obtain ⟨t20, hg19, h⟩ := of_bind h
  refine AnyE.call 4 25 (.agg (List.flatMap (fun (x : Int) => ([.int .i64 x] : List Value)) t20).toArray) 23 #[.int .i64 (IntKind.wrap .i64 (Int.tdiv (IntKind.wrap .i64 p0_1) 16))] (by kernel_rfl) hS17 (fun _ => by kernel_rfl) (fun w hk => charabancref10_row_23_ok K (fun _ => False) w (IntKind.wrap .i64 (Int.tdiv (IntKind.wrap .i64 p0_1) 16)) (fun _ hf => hf.elim) hg19) ?_
  refine AnyE.pure 5 26 (.pointer (some ⟨b2, 1, none⟩)) (by kernel_rfl) hS17 (fun _ => by kernel_rfl) ?_
  refine AnyE.loadBox 6 27 0 5 b2 1 (.int .u8 p0_1) [] h16 rfl (by kernel_rfl) hS17 rfl rfl (by kernel_rfl) (by kernel_rfl) ?_
  refine AnyE.pure 7 28 (.int .i64 (IntKind.wrap .i64 p0_1)) (by kernel_rfl) hS17 (fun _ => by kernel_rfl) ?_
  refine AnyE.pure 8 29 (.int .i64 (Int.tmod (IntKind.wrap .i64 p0_1) 16)) (by kernel_rfl) hS17 (fun _ => by kernel_rfl) ?_
  obtain ⟨hc21, h⟩ := of_cond0 h
  refine AnyE.run 9 30 (.int .i64 (rdD t20 (Int.tmod (IntKind.wrap .i64 p0_1) 16))) (by kernel_rfl) hS17 (fun _ hk => run_indexTab (T0 := 46) (en := (fun (x : Int) => ([.int .i64 x] : List Value))) (tab := t20) (len := 16) (sz := 1) (j := (Int.tmod (IntKind.wrap .i64 p0_1) 16)) (v := .int .i64 (rdD t20 (Int.tmod (IntKind.wrap .i64 p0_1) 16))) (fun _ => rfl) (by kernel_rfl) (by kernel_rfl) (Nat.eq_of_beq_eq_true (and_l hc21)) (and_r hc21) (fun _ => by kernel_rfl)) ?_
  refine AnyE.pure 10 10 (.int .i64 (rdD t20 (Int.tmod (IntKind.wrap .i64 p0_1) 16))) (by kernel_rfl) hS17 (fun _ => by kernel_rfl) ?_
  refine AnyE.done (by kernel_rfl) (fun w22 hu23 => ?_)
  have h24 := h16.call hu23
  refine RunsI.only [1, 2, 5, 6, 7, 10] [(1, .bool p1), (2, .pointer (some ⟨b2, 0, none⟩)), (5, .int .i64 t10), (6, .int .i64 t11), (7, .int .i64 t12), (10, .int .i64 (rdD t20 (Int.tmod (IntKind.wrap .i64 p0_1) 16)))] (by kernel_rfl) (by kernel_rfl) ?_
  refine RunsI.go 2 [.c 8, .c 9, .c 12] (by kernel_rfl) ?_
  refine RunsI.region (by kernel_rfl) ?_
  refine RegI.pure 1 [1, 2, 5, 6, 7, 10, 31] [(1, .bool p1), (2, .pointer (some ⟨b2, 0, none⟩)), (5, .int .i64 t10), (6, .int .i64 t11), (7, .int .i64 t12), (10, .int .i64 (rdD t20 (Int.tmod (IntKind.wrap .i64 p0_1) 16))), (31, .bool p1)] (by kernel_rfl) ?_
  refine RegI.done (by kernel_rfl) ?_
  obtain ⟨j34, hJ35, h⟩ := of_let h
  have hj36 : ∀ (t31 : Int) (w33 : World), j34 t31 = some r → Holds M0 w0 w33 [box b2 24 [.int .i64 p0_0, .int .u8 p0_1, .int .u8 p0_2, .int .u16 p0_3, .int .i64 p0_4, .int .i64 p0_5]] → RunsI F10 [.c 12] [(1, .bool p1), (2, .pointer (some ⟨b2, 0, none⟩)), (5, .int .i64 t10), (6, .int .i64 t11), (7, .int .i64 t12), (10, .int .i64 t31)] w33 (charabancref10_Of_10.post M0 w0 r) := by
    intro t31 w33 h h32
    rw [hJ35] at h
    clear hJ35
    dsimp only at h
    refine RunsI.go 2 [.c 14, .c 15, .c 79] (by kernel_rfl) ?_
    refine RunsI.region (by kernel_rfl) ?_
    refine RegI.pure 1 [1, 2, 5, 6, 7, 10, 37] [(1, .bool p1), (2, .pointer (some ⟨b2, 0, none⟩)), (5, .int .i64 t10), (6, .int .i64 t11), (7, .int .i64 t12), (10, .int .i64 t31), (37, .pointer (some ⟨b2, 0, none⟩))] (by kernel_rfl) ?_
    refine RegI.op (by kernel_rfl) (OpE.loadBox 38 0 3 b2 0 (.int .i64 p0_0) h32 (by kernel_rfl) (by kernel_rfl) rfl (by kernel_rfl) ?_)
    refine RegI.done (by kernel_rfl) ?_
    refine RunsI.go 2 [.c 17, .c 18, .blk 0, .c 79] (by kernel_rfl) ?_
    refine RunsI.region (by kernel_rfl) ?_
    refine RegI.pure 2 [1, 2, 5, 6, 7, 10, 38, 39] [(1, .bool p1), (2, .pointer (some ⟨b2, 0, none⟩)), (5, .int .i64 t10), (6, .int .i64 t11), (7, .int .i64 t12), (10, .int .i64 t31), (38, .int .i64 p0_0), (39, .bool (p0_0 == 0))] (by kernel_rfl) ?_
    refine RegI.done (by kernel_rfl) ?_
    rcases of_cond h with ⟨hc37, h⟩ | ⟨hc37, h⟩
    · skip
      refine RunsI.fix 39 true hc37 (by kernel_rfl) (by kernel_rfl) ?_
      refine RunsI.cond true 19 (by kernel_rfl) ?_
      refine RunsI.go 1 [.blk 0, .c 79] (by kernel_rfl) ?_
      refine RunsI.go 2 [.c 80, .c 81] (by kernel_rfl) ?_
      refine RunsI.region (by kernel_rfl) ?_
      refine RegI.pure 2 [81, 82] [(81, .int .i64 t31), (82, .pointer (some ⟨b2, 5, none⟩))] (by kernel_rfl) ?_
      refine RegI.op (by kernel_rfl) (OpE.loadBox 83 0 3 b2 5 (.int .i64 p0_5) h32 (by kernel_rfl) (by kernel_rfl) rfl (by kernel_rfl) ?_)
      refine RegI.pure 3 [4] [(4, .int .i64 (IntKind.wrap .i64 (t31 + (IntKind.wrap .i64 (4 * p0_5)))))] (by kernel_rfl) ?_
      refine RegI.done (by kernel_rfl) ?_
      refine RunsI.ret (.int .i64 (IntKind.wrap .i64 (t31 + (IntKind.wrap .i64 (4 * p0_5))))) (by kernel_rfl) (by kernel_rfl) ?_
      obtain rfl := Option.some.inj h
      exact ⟨rfl, h32.below⟩
    · skip
      refine RunsI.fix 39 false hc37 (by kernel_rfl) (by kernel_rfl) ?_
      refine RunsI.cond false 20 (by kernel_rfl) ?_
      refine RunsI.go 2 [.c 22, .c 23, .c 26, .blk 0, .c 79] (by kernel_rfl) ?_
      refine RunsI.region (by kernel_rfl) ?_
      refine RegI.pure 2 [1, 2, 5, 6, 7, 10, 38, 41] [(1, .bool p1), (2, .pointer (some ⟨b2, 0, none⟩)), (5, .int .i64 t10), (6, .int .i64 t11), (7, .int .i64 t12), (10, .int .i64 t31), (38, .int .i64 p0_0), (41, .bool (p0_0 == 3))] (by kernel_rfl) ?_
      refine RegI.done (by kernel_rfl) ?_
      obtain ⟨j42, hJ43, h⟩ := of_let h
      have hj44 : ∀ (t39 : Bool) (w41 : World), j42 t39 = some r → Holds M0 w0 w41 [box b2 24 [.int .i64 p0_0, .int .u8 p0_1, .int .u8 p0_2, .int .u16 p0_3, .int .i64 p0_4, .int .i64 p0_5]] → RunsI F10 [.c 26, .blk 0, .c 79] [(1, .bool p1), (2, .pointer (some ⟨b2, 0, none⟩)), (5, .int .i64 t10), (6, .int .i64 t11), (7, .int .i64 t12), (10, .int .i64 t31), (38, .int .i64 p0_0), (41, .bool t39)] w41 (charabancref10_Of_10.post M0 w0 r) := by
        intro t39 w41 h h40
        rw [hJ43] at h
        clear hJ43
        dsimp only at h
        rcases of_cond h with ⟨hc45, h⟩ | ⟨hc45, h⟩
        · skip
          refine RunsI.fix 41 true hc45 (by kernel_rfl) (by kernel_rfl) ?_
          refine RunsI.cond true 27 (by kernel_rfl) ?_
          refine RunsI.go 1 [.c 28, .c 29, .blk 0, .c 79] (by kernel_rfl) ?_
          refine RunsI.region (by kernel_rfl) ?_
          refine RegI.pure 3 [2, 10] [(2, .pointer (some ⟨b2, 0, none⟩)), (10, .int .i64 (IntKind.wrap .i64 (t31 + 4)))] (by kernel_rfl) ?_
          refine RegI.done (by kernel_rfl) ?_
          refine RunsI.go 1 [.c 30, .c 31, .blk 0, .c 79] (by kernel_rfl) ?_
          refine RunsI.region (by kernel_rfl) ?_
          refine RegI.pure 1 [2, 10, 46] [(2, .pointer (some ⟨b2, 0, none⟩)), (10, .int .i64 (IntKind.wrap .i64 (t31 + 4))), (46, .pointer (some ⟨b2, 0, none⟩))] (by kernel_rfl) ?_
          refine RegI.op (by kernel_rfl) (OpE.loadBox 47 0 3 b2 0 (.int .i64 p0_0) h40 (by kernel_rfl) (by kernel_rfl) rfl (by kernel_rfl) ?_)
          refine RegI.pure 1 [2, 10, 47, 48] [(2, .pointer (some ⟨b2, 0, none⟩)), (10, .int .i64 (IntKind.wrap .i64 (t31 + 4))), (47, .int .i64 p0_0), (48, .pointer (some ⟨b2, 1, none⟩))] (by kernel_rfl) ?_
          refine RegI.op (by kernel_rfl) (OpE.loadBox 49 0 5 b2 1 (.int .u8 p0_1) h40 (by kernel_rfl) (by kernel_rfl) rfl (by kernel_rfl) ?_)
          obtain ⟨t50, hg49, h⟩ := of_bind h
          refine RegI.op (by kernel_rfl) (OpE.call 50 (by kernel_rfl) 25 #[.int .i64 p0_0, .int .u8 p0_1] (by kernel_rfl) ((charabancref08_Near_25_ok K _ w41  p0_0 p0_1 h40.old' hg49).mono ?_))
          rintro _ w46 ⟨rfl, hb47⟩
          refine ⟨_, rfl, ?_⟩
          have h48 := h40.call hb47
          refine RegI.pure 1 [2, 10, 11] [(2, .pointer (some ⟨b2, 0, none⟩)), (10, .int .i64 (IntKind.wrap .i64 (t31 + 4))), (11, .bool t50)] (by kernel_rfl) ?_
          refine RegI.done (by kernel_rfl) ?_
          refine RunsI.go 2 [.c 33, .c 34, .c 37, .blk 0, .c 79] (by kernel_rfl) ?_
          refine RunsI.region (by kernel_rfl) ?_
          refine RegI.pure 1 [2, 10, 51] [(2, .pointer (some ⟨b2, 0, none⟩)), (10, .int .i64 (IntKind.wrap .i64 (t31 + 4))), (51, .bool t50)] (by kernel_rfl) ?_
          refine RegI.done (by kernel_rfl) ?_
          obtain ⟨j55, hJ56, h⟩ := of_let h
          have hj57 : ∀ (t52 : Int) (w54 : World), j55 t52 = some r → Holds M0 w0 w54 [box b2 24 [.int .i64 p0_0, .int .u8 p0_1, .int .u8 p0_2, .int .u16 p0_3, .int .i64 p0_4, .int .i64 p0_5]] → RunsI F10 [.c 37, .blk 0, .c 79] [(2, .pointer (some ⟨b2, 0, none⟩)), (10, .int .i64 t52)] w54 (charabancref10_Of_10.post M0 w0 r) := by
            intro t52 w54 h h53
            rw [hJ56] at h
            clear hJ56
            dsimp only at h
            refine RunsI.go 1 [.c 38, .c 39, .blk 0, .c 79] (by kernel_rfl) ?_
            refine RunsI.region (by kernel_rfl) ?_
            refine RegI.pure 1 [2, 10, 54] [(2, .pointer (some ⟨b2, 0, none⟩)), (10, .int .i64 t52), (54, .pointer (some ⟨b2, 1, none⟩))] (by kernel_rfl) ?_
            refine RegI.op (by kernel_rfl) (OpE.loadBox 55 0 5 b2 1 (.int .u8 p0_1) h53 (by kernel_rfl) (by kernel_rfl) rfl (by kernel_rfl) ?_)
            refine RegI.pure 1 [2, 10, 56] [(2, .pointer (some ⟨b2, 0, none⟩)), (10, .int .i64 t52), (56, .bool (p0_1 == 54))] (by kernel_rfl) ?_
            refine RegI.done (by kernel_rfl) ?_
            rcases of_cond h with ⟨hc58, h⟩ | ⟨hc58, h⟩
            · skip
              refine RunsI.fix 56 true hc58 (by kernel_rfl) (by kernel_rfl) ?_
              refine RunsI.cond true 40 (by kernel_rfl) ?_
              refine RunsI.region (by kernel_rfl) ?_
              refine RegI.pure 3 [2, 10] [(2, .pointer (some ⟨b2, 0, none⟩)), (10, .int .i64 (IntKind.wrap .i64 (t52 - 3)))] (by kernel_rfl) ?_
              refine RegI.done (by kernel_rfl) ?_
              refine RunsI.go 2 [.c 80, .c 81] (by kernel_rfl) ?_
              refine RunsI.region (by kernel_rfl) ?_
              refine RegI.pure 2 [81, 82] [(81, .int .i64 (IntKind.wrap .i64 (t52 - 3))), (82, .pointer (some ⟨b2, 5, none⟩))] (by kernel_rfl) ?_
              refine RegI.op (by kernel_rfl) (OpE.loadBox 83 0 3 b2 5 (.int .i64 p0_5) h53 (by kernel_rfl) (by kernel_rfl) rfl (by kernel_rfl) ?_)
              refine RegI.pure 3 [4] [(4, .int .i64 (IntKind.wrap .i64 ((IntKind.wrap .i64 (t52 - 3)) + (IntKind.wrap .i64 (4 * p0_5)))))] (by kernel_rfl) ?_
              refine RegI.done (by kernel_rfl) ?_
              refine RunsI.ret (.int .i64 (IntKind.wrap .i64 ((IntKind.wrap .i64 (t52 - 3)) + (IntKind.wrap .i64 (4 * p0_5))))) (by kernel_rfl) (by kernel_rfl) ?_
              obtain rfl := Option.some.inj h
              exact ⟨rfl, h53.below⟩
            · skip
              refine RunsI.fix 56 false hc58 (by kernel_rfl) (by kernel_rfl) ?_
              refine RunsI.cond false 41 (by kernel_rfl) ?_
              refine RunsI.go 1 [.blk 0, .c 79] (by kernel_rfl) ?_
              refine RunsI.go 2 [.c 80, .c 81] (by kernel_rfl) ?_
              refine RunsI.region (by kernel_rfl) ?_
              refine RegI.pure 2 [81, 82] [(81, .int .i64 t52), (82, .pointer (some ⟨b2, 5, none⟩))] (by kernel_rfl) ?_
              refine RegI.op (by kernel_rfl) (OpE.loadBox 83 0 3 b2 5 (.int .i64 p0_5) h53 (by kernel_rfl) (by kernel_rfl) rfl (by kernel_rfl) ?_)
              refine RegI.pure 3 [4] [(4, .int .i64 (IntKind.wrap .i64 (t52 + (IntKind.wrap .i64 (4 * p0_5)))))] (by kernel_rfl) ?_
              refine RegI.done (by kernel_rfl) ?_
              refine RunsI.ret (.int .i64 (IntKind.wrap .i64 (t52 + (IntKind.wrap .i64 (4 * p0_5))))) (by kernel_rfl) (by kernel_rfl) ?_
              obtain rfl := Option.some.inj h
              exact ⟨rfl, h53.below⟩
          clear hJ56
          rcases of_cond h with ⟨hc51, h⟩ | ⟨hc51, h⟩
          · skip
            refine RunsI.fix 51 true hc51 (by kernel_rfl) (by kernel_rfl) ?_
            refine RunsI.cond true 35 (by kernel_rfl) ?_
            refine RunsI.region (by kernel_rfl) ?_
            refine RegI.pure 3 [2, 10] [(2, .pointer (some ⟨b2, 0, none⟩)), (10, .int .i64 (IntKind.wrap .i64 ((IntKind.wrap .i64 (t31 + 4)) + 8)))] (by kernel_rfl) ?_
            refine RegI.done (by kernel_rfl) ?_
            refine RunsI.only [2, 10] [(2, .pointer (some ⟨b2, 0, none⟩)), (10, .int .i64 (IntKind.wrap .i64 ((IntKind.wrap .i64 (t31 + 4)) + 8)))] (by kernel_rfl) (by kernel_rfl) ?_
            exact hj57 (IntKind.wrap .i64 ((IntKind.wrap .i64 (t31 + 4)) + 8)) w46 h (h48.pick [0] (by decide))
          · skip
            refine RunsI.fix 51 false hc51 (by kernel_rfl) (by kernel_rfl) ?_
            refine RunsI.cond false 36 (by kernel_rfl) ?_
            refine RunsI.go 1 [.c 37, .blk 0, .c 79] (by kernel_rfl) ?_
            refine RunsI.only [2, 10] [(2, .pointer (some ⟨b2, 0, none⟩)), (10, .int .i64 (IntKind.wrap .i64 (t31 + 4)))] (by kernel_rfl) (by kernel_rfl) ?_
            exact hj57 (IntKind.wrap .i64 (t31 + 4)) w46 h (h48.pick [0] (by decide))
        · skip
          refine RunsI.fix 41 false hc45 (by kernel_rfl) (by kernel_rfl) ?_
          refine RunsI.cond false 42 (by kernel_rfl) ?_
          refine RunsI.go 1 [.c 43, .c 44, .blk 0, .c 79] (by kernel_rfl) ?_
          refine RunsI.region (by kernel_rfl) ?_
          refine RegI.pure 2 [1, 2, 5, 6, 7, 38, 59] [(1, .bool p1), (2, .pointer (some ⟨b2, 0, none⟩)), (5, .int .i64 t10), (6, .int .i64 t11), (7, .int .i64 t12), (38, .int .i64 p0_0), (59, .bool (p0_0 == 1))] (by kernel_rfl) ?_
          refine RegI.done (by kernel_rfl) ?_
          rcases of_cond h with ⟨hc59, h⟩ | ⟨hc59, h⟩
          · skip
            refine RunsI.fix 59 true hc59 (by kernel_rfl) (by kernel_rfl) ?_
            refine RunsI.cond true 45 (by kernel_rfl) ?_
            refine RunsI.go 1 [.c 46, .c 47, .blk 0, .c 79] (by kernel_rfl) ?_
            refine RunsI.region (by kernel_rfl) ?_
            refine RegI.pure 1 [2, 5, 7, 10] [(2, .pointer (some ⟨b2, 0, none⟩)), (5, .int .i64 t10), (7, .int .i64 t12), (10, .int .i64 8)] (by kernel_rfl) ?_
            refine RegI.done (by kernel_rfl) ?_
            refine RunsI.go 2 [.c 49, .c 50, .c 53, .blk 0, .c 79] (by kernel_rfl) ?_
            refine RunsI.region (by kernel_rfl) ?_
            refine RegI.pure 2 [2, 5, 7, 10, 62] [(2, .pointer (some ⟨b2, 0, none⟩)), (5, .int .i64 t10), (7, .int .i64 t12), (10, .int .i64 8), (62, .bool (t12 == 6))] (by kernel_rfl) ?_
            refine RegI.done (by kernel_rfl) ?_
            obtain ⟨j64, hJ65, h⟩ := of_let h
            have hj66 : ∀ (t61 : Int) (w63 : World), j64 t61 = some r → Holds M0 w0 w63 [box b2 24 [.int .i64 p0_0, .int .u8 p0_1, .int .u8 p0_2, .int .u16 p0_3, .int .i64 p0_4, .int .i64 p0_5]] → RunsI F10 [.c 53, .blk 0, .c 79] [(2, .pointer (some ⟨b2, 0, none⟩)), (5, .int .i64 t10), (7, .int .i64 t12), (10, .int .i64 t61)] w63 (charabancref10_Of_10.post M0 w0 r) := by
              intro t61 w63 h h62
              rw [hJ65] at h
              clear hJ65
              dsimp only at h
              refine RunsI.go 1 [.c 54, .c 55, .blk 0, .c 79] (by kernel_rfl) ?_
              refine RunsI.region (by kernel_rfl) ?_
              refine RegI.pure 3 [2, 5, 10, 65] [(2, .pointer (some ⟨b2, 0, none⟩)), (5, .int .i64 t10), (10, .int .i64 t61), (65, .bool (t12 == 6))] (by kernel_rfl) ?_
              obtain ⟨j71, hJ72, h⟩ := of_let h
              have hj73 : ∀ (t68 : Bool) (w70 : World), j71 t68 = some r → Holds M0 w0 w70 [box b2 24 [.int .i64 p0_0, .int .u8 p0_1, .int .u8 p0_2, .int .u16 p0_3, .int .i64 p0_4, .int .i64 p0_5]] → RegI F10 54 [.c 55, .blk 0, .c 79] 6 [(2, .pointer (some ⟨b2, 0, none⟩)), (10, .int .i64 t61), (68, .bool t68)] w70 (charabancref10_Of_10.post M0 w0 r) := by
                intro t68 w70 h h69
                rw [hJ72] at h
                clear hJ72
                dsimp only at h
                refine RegI.done (by kernel_rfl) ?_
                rcases of_cond h with ⟨hc74, h⟩ | ⟨hc74, h⟩
                · skip
                  refine RunsI.fix 68 true hc74 (by kernel_rfl) (by kernel_rfl) ?_
                  refine RunsI.cond true 56 (by kernel_rfl) ?_
                  refine RunsI.region (by kernel_rfl) ?_
                  refine RegI.pure 1 [2, 10] [(2, .pointer (some ⟨b2, 0, none⟩)), (10, .int .i64 12)] (by kernel_rfl) ?_
                  refine RegI.done (by kernel_rfl) ?_
                  refine RunsI.go 2 [.c 80, .c 81] (by kernel_rfl) ?_
                  refine RunsI.region (by kernel_rfl) ?_
                  refine RegI.pure 2 [81, 82] [(81, .int .i64 12), (82, .pointer (some ⟨b2, 5, none⟩))] (by kernel_rfl) ?_
                  refine RegI.op (by kernel_rfl) (OpE.loadBox 83 0 3 b2 5 (.int .i64 p0_5) h69 (by kernel_rfl) (by kernel_rfl) rfl (by kernel_rfl) ?_)
                  refine RegI.pure 3 [4] [(4, .int .i64 (IntKind.wrap .i64 (12 + (IntKind.wrap .i64 (4 * p0_5)))))] (by kernel_rfl) ?_
                  refine RegI.done (by kernel_rfl) ?_
                  refine RunsI.ret (.int .i64 (IntKind.wrap .i64 (12 + (IntKind.wrap .i64 (4 * p0_5))))) (by kernel_rfl) (by kernel_rfl) ?_
                  obtain rfl := Option.some.inj h
                  exact ⟨rfl, h69.below⟩
                · skip
                  refine RunsI.fix 68 false hc74 (by kernel_rfl) (by kernel_rfl) ?_
                  refine RunsI.cond false 57 (by kernel_rfl) ?_
                  refine RunsI.go 1 [.blk 0, .c 79] (by kernel_rfl) ?_
                  refine RunsI.go 2 [.c 80, .c 81] (by kernel_rfl) ?_
                  refine RunsI.region (by kernel_rfl) ?_
                  refine RegI.pure 2 [81, 82] [(81, .int .i64 t61), (82, .pointer (some ⟨b2, 5, none⟩))] (by kernel_rfl) ?_
                  refine RegI.op (by kernel_rfl) (OpE.loadBox 83 0 3 b2 5 (.int .i64 p0_5) h69 (by kernel_rfl) (by kernel_rfl) rfl (by kernel_rfl) ?_)
                  refine RegI.pure 3 [4] [(4, .int .i64 (IntKind.wrap .i64 (t61 + (IntKind.wrap .i64 (4 * p0_5)))))] (by kernel_rfl) ?_
                  refine RegI.done (by kernel_rfl) ?_
                  refine RunsI.ret (.int .i64 (IntKind.wrap .i64 (t61 + (IntKind.wrap .i64 (4 * p0_5))))) (by kernel_rfl) (by kernel_rfl) ?_
                  obtain rfl := Option.some.inj h
                  exact ⟨rfl, h69.below⟩
              clear hJ72
              rcases of_cond h with ⟨hc67, h⟩ | ⟨hc67, h⟩
              · skip
                refine RegI.fix 65 true hc67 (by kernel_rfl) (by kernel_rfl) ?_
                refine RegI.pure 3 [2, 10, 68] [(2, .pointer (some ⟨b2, 0, none⟩)), (10, .int .i64 t61), (68, .bool (t10 == 1))] (by kernel_rfl) ?_
                refine RegI.only [2, 10, 68] [(2, .pointer (some ⟨b2, 0, none⟩)), (10, .int .i64 t61), (68, .bool (t10 == 1))] (by kernel_rfl) (by kernel_rfl) ?_
                exact hj73 (t10 == 1) w63 h (h62.pick [0] (by decide))
              · skip
                refine RegI.fix 65 false hc67 (by kernel_rfl) (by kernel_rfl) ?_
                refine RegI.pure 3 [2, 10, 68] [(2, .pointer (some ⟨b2, 0, none⟩)), (10, .int .i64 t61), (68, .bool false)] (by kernel_rfl) ?_
                refine RegI.only [2, 10, 68] [(2, .pointer (some ⟨b2, 0, none⟩)), (10, .int .i64 t61), (68, .bool false)] (by kernel_rfl) (by kernel_rfl) ?_
                exact hj73 false w63 h (h62.pick [0] (by decide))
            clear hJ65
            rcases of_cond h with ⟨hc60, h⟩ | ⟨hc60, h⟩
            · skip
              refine RunsI.fix 62 true hc60 (by kernel_rfl) (by kernel_rfl) ?_
              refine RunsI.cond true 51 (by kernel_rfl) ?_
              refine RunsI.region (by kernel_rfl) ?_
              refine RegI.pure 1 [2, 5, 7, 10] [(2, .pointer (some ⟨b2, 0, none⟩)), (5, .int .i64 t10), (7, .int .i64 t12), (10, .int .i64 15)] (by kernel_rfl) ?_
              refine RegI.done (by kernel_rfl) ?_
              refine RunsI.only [2, 5, 7, 10] [(2, .pointer (some ⟨b2, 0, none⟩)), (5, .int .i64 t10), (7, .int .i64 t12), (10, .int .i64 15)] (by kernel_rfl) (by kernel_rfl) ?_
              exact hj66 15 w41 h (h40.pick [0] (by decide))
            · skip
              refine RunsI.fix 62 false hc60 (by kernel_rfl) (by kernel_rfl) ?_
              refine RunsI.cond false 52 (by kernel_rfl) ?_
              refine RunsI.go 1 [.c 53, .blk 0, .c 79] (by kernel_rfl) ?_
              refine RunsI.only [2, 5, 7, 10] [(2, .pointer (some ⟨b2, 0, none⟩)), (5, .int .i64 t10), (7, .int .i64 t12), (10, .int .i64 8)] (by kernel_rfl) (by kernel_rfl) ?_
              exact hj66 8 w41 h (h40.pick [0] (by decide))
          · skip
            refine RunsI.fix 59 false hc59 (by kernel_rfl) (by kernel_rfl) ?_
            refine RunsI.cond false 58 (by kernel_rfl) ?_
            refine RunsI.go 2 [.c 60, .c 61, .c 64, .blk 0, .c 79] (by kernel_rfl) ?_
            refine RunsI.region (by kernel_rfl) ?_
            refine RegI.pure 2 [1, 2, 5, 6, 7, 38, 69] [(1, .bool p1), (2, .pointer (some ⟨b2, 0, none⟩)), (5, .int .i64 t10), (6, .int .i64 t11), (7, .int .i64 t12), (38, .int .i64 p0_0), (69, .bool (p0_0 == 5))] (by kernel_rfl) ?_
            refine RegI.done (by kernel_rfl) ?_
            obtain ⟨j79, hJ80, h⟩ := of_let h
            have hj81 : ∀ (t76 : Bool) (w78 : World), j79 t76 = some r → Holds M0 w0 w78 [box b2 24 [.int .i64 p0_0, .int .u8 p0_1, .int .u8 p0_2, .int .u16 p0_3, .int .i64 p0_4, .int .i64 p0_5]] → RunsI F10 [.c 64, .blk 0, .c 79] [(1, .bool p1), (2, .pointer (some ⟨b2, 0, none⟩)), (5, .int .i64 t10), (6, .int .i64 t11), (7, .int .i64 t12), (38, .int .i64 p0_0), (69, .bool t76)] w78 (charabancref10_Of_10.post M0 w0 r) := by
              intro t76 w78 h h77
              rw [hJ80] at h
              clear hJ80
              dsimp only at h
              rcases of_cond h with ⟨hc82, h⟩ | ⟨hc82, h⟩
              · skip
                refine RunsI.fix 69 true hc82 (by kernel_rfl) (by kernel_rfl) ?_
                refine RunsI.cond true 65 (by kernel_rfl) ?_
                refine RunsI.go 1 [.c 66, .c 67, .blk 0, .c 79] (by kernel_rfl) ?_
                refine RunsI.region (by kernel_rfl) ?_
                refine RegI.pure 1 [2, 5, 10] [(2, .pointer (some ⟨b2, 0, none⟩)), (5, .int .i64 t10), (10, .int .i64 23)] (by kernel_rfl) ?_
                refine RegI.done (by kernel_rfl) ?_
                refine RunsI.go 1 [.c 68, .c 69, .blk 0, .c 79] (by kernel_rfl) ?_
                refine RunsI.region (by kernel_rfl) ?_
                refine RegI.pure 2 [2, 10, 73] [(2, .pointer (some ⟨b2, 0, none⟩)), (10, .int .i64 23), (73, .bool (t10 == 1))] (by kernel_rfl) ?_
                refine RegI.done (by kernel_rfl) ?_
                rcases of_cond h with ⟨hc83, h⟩ | ⟨hc83, h⟩
                · skip
                  refine RunsI.fix 73 true hc83 (by kernel_rfl) (by kernel_rfl) ?_
                  refine RunsI.cond true 70 (by kernel_rfl) ?_
                  refine RunsI.region (by kernel_rfl) ?_
                  refine RegI.pure 1 [2, 10] [(2, .pointer (some ⟨b2, 0, none⟩)), (10, .int .i64 20)] (by kernel_rfl) ?_
                  refine RegI.done (by kernel_rfl) ?_
                  refine RunsI.go 2 [.c 80, .c 81] (by kernel_rfl) ?_
                  refine RunsI.region (by kernel_rfl) ?_
                  refine RegI.pure 2 [81, 82] [(81, .int .i64 20), (82, .pointer (some ⟨b2, 5, none⟩))] (by kernel_rfl) ?_
                  refine RegI.op (by kernel_rfl) (OpE.loadBox 83 0 3 b2 5 (.int .i64 p0_5) h77 (by kernel_rfl) (by kernel_rfl) rfl (by kernel_rfl) ?_)
                  refine RegI.pure 3 [4] [(4, .int .i64 (IntKind.wrap .i64 (20 + (IntKind.wrap .i64 (4 * p0_5)))))] (by kernel_rfl) ?_
                  refine RegI.done (by kernel_rfl) ?_
                  refine RunsI.ret (.int .i64 (IntKind.wrap .i64 (20 + (IntKind.wrap .i64 (4 * p0_5))))) (by kernel_rfl) (by kernel_rfl) ?_
                  obtain rfl := Option.some.inj h
                  exact ⟨rfl, h77.below⟩
                · skip
                  refine RunsI.fix 73 false hc83 (by kernel_rfl) (by kernel_rfl) ?_
                  refine RunsI.cond false 71 (by kernel_rfl) ?_
                  refine RunsI.go 1 [.blk 0, .c 79] (by kernel_rfl) ?_
                  refine RunsI.go 2 [.c 80, .c 81] (by kernel_rfl) ?_
                  refine RunsI.region (by kernel_rfl) ?_
                  refine RegI.pure 2 [81, 82] [(81, .int .i64 23), (82, .pointer (some ⟨b2, 5, none⟩))] (by kernel_rfl) ?_
                  refine RegI.op (by kernel_rfl) (OpE.loadBox 83 0 3 b2 5 (.int .i64 p0_5) h77 (by kernel_rfl) (by kernel_rfl) rfl (by kernel_rfl) ?_)
                  refine RegI.pure 3 [4] [(4, .int .i64 (IntKind.wrap .i64 (23 + (IntKind.wrap .i64 (4 * p0_5)))))] (by kernel_rfl) ?_
                  refine RegI.done (by kernel_rfl) ?_
                  refine RunsI.ret (.int .i64 (IntKind.wrap .i64 (23 + (IntKind.wrap .i64 (4 * p0_5))))) (by kernel_rfl) (by kernel_rfl) ?_
                  obtain rfl := Option.some.inj h
                  exact ⟨rfl, h77.below⟩
              · skip
                refine RunsI.fix 69 false hc82 (by kernel_rfl) (by kernel_rfl) ?_
                refine RunsI.cond false 72 (by kernel_rfl) ?_
                refine RunsI.go 1 [.c 73, .c 74, .blk 0, .c 79] (by kernel_rfl) ?_
                refine RunsI.region (by kernel_rfl) ?_
                refine RegI.pure 2 [1, 2, 5, 6, 7, 74] [(1, .bool p1), (2, .pointer (some ⟨b2, 0, none⟩)), (5, .int .i64 t10), (6, .int .i64 t11), (7, .int .i64 t12), (74, .bool (p0_0 == 2))] (by kernel_rfl) ?_
                refine RegI.done (by kernel_rfl) ?_
                rcases of_cond h with ⟨hc84, h⟩ | ⟨hc84, h⟩
                · skip
                  refine RunsI.fix 74 true hc84 (by kernel_rfl) (by kernel_rfl) ?_
                  refine RunsI.cond true 75 (by kernel_rfl) ?_
                  refine RunsI.region (by kernel_rfl) ?_
                  refine RegI.pure 4 [2, 76, 77, 78, 79] [(2, .pointer (some ⟨b2, 0, none⟩)), (76, .int .i64 t10), (77, .int .i64 t11), (78, .int .i64 t12), (79, .bool p1)] (by kernel_rfl) ?_
                  obtain ⟨t89, hg88, h⟩ := of_bind h
                  refine RegI.op (by kernel_rfl) (OpE.call 80 (by kernel_rfl) 26 #[.int .i64 t10, .int .i64 t11, .int .i64 t12, .bool p1] (by kernel_rfl) ((charabancref10_ed_26_ok K _ w78  t10 t11 t12 p1 h77.old' hg88).mono ?_))
                  rintro _ w85 ⟨rfl, hb86⟩
                  refine ⟨_, rfl, ?_⟩
                  have h87 := h77.call hb86
                  refine RegI.pure 1 [2, 10] [(2, .pointer (some ⟨b2, 0, none⟩)), (10, .int .i64 t89)] (by kernel_rfl) ?_
                  refine RegI.done (by kernel_rfl) ?_
                  refine RunsI.go 2 [.c 80, .c 81] (by kernel_rfl) ?_
                  refine RunsI.region (by kernel_rfl) ?_
                  refine RegI.pure 2 [81, 82] [(81, .int .i64 t89), (82, .pointer (some ⟨b2, 5, none⟩))] (by kernel_rfl) ?_
                  refine RegI.op (by kernel_rfl) (OpE.loadBox 83 0 3 b2 5 (.int .i64 p0_5) h87 (by kernel_rfl) (by kernel_rfl) rfl (by kernel_rfl) ?_)
                  refine RegI.pure 3 [4] [(4, .int .i64 (IntKind.wrap .i64 (t89 + (IntKind.wrap .i64 (4 * p0_5)))))] (by kernel_rfl) ?_
                  refine RegI.done (by kernel_rfl) ?_
                  refine RunsI.ret (.int .i64 (IntKind.wrap .i64 (t89 + (IntKind.wrap .i64 (4 * p0_5))))) (by kernel_rfl) (by kernel_rfl) ?_
                  obtain rfl := Option.some.inj h
                  exact ⟨rfl, h87.below⟩
                · skip
                  refine RunsI.fix 74 false hc84 (by kernel_rfl) (by kernel_rfl) ?_
                  refine RunsI.cond false 76 (by kernel_rfl) ?_
                  refine RunsI.go 1 [.c 77, .c 78, .blk 0, .c 79] (by kernel_rfl) ?_
                  refine RunsI.region (by kernel_rfl) ?_
                  refine RegI.pure 1 [4] [(4, .int .i64 0)] (by kernel_rfl) ?_
                  refine RegI.done (by kernel_rfl) ?_
                  refine RunsI.ret (.int .i64 0) (by kernel_rfl) (by kernel_rfl) ?_
                  obtain rfl := Option.some.inj h
                  exact ⟨rfl, h77.below⟩
            clear hJ80
            rcases of_cond h with ⟨hc75, h⟩ | ⟨hc75, h⟩
            · skip
              refine RunsI.fix 69 true hc75 (by kernel_rfl) (by kernel_rfl) ?_
              refine RunsI.cond true 62 (by kernel_rfl) ?_
              refine RunsI.go 1 [.c 64, .blk 0, .c 79] (by kernel_rfl) ?_
              refine RunsI.only [1, 2, 5, 6, 7, 38, 69] [(1, .bool p1), (2, .pointer (some ⟨b2, 0, none⟩)), (5, .int .i64 t10), (6, .int .i64 t11), (7, .int .i64 t12), (38, .int .i64 p0_0), (69, .bool true)] (by kernel_rfl) (by kernel_rfl) ?_
              exact hj81 true w41 h (h40.pick [0] (by decide))
            · skip
              refine RunsI.fix 69 false hc75 (by kernel_rfl) (by kernel_rfl) ?_
              refine RunsI.cond false 63 (by kernel_rfl) ?_
              refine RunsI.region (by kernel_rfl) ?_
              refine RegI.pure 2 [1, 2, 5, 6, 7, 38, 69] [(1, .bool p1), (2, .pointer (some ⟨b2, 0, none⟩)), (5, .int .i64 t10), (6, .int .i64 t11), (7, .int .i64 t12), (38, .int .i64 p0_0), (69, .bool (p0_0 == 6))] (by kernel_rfl) ?_
              refine RegI.done (by kernel_rfl) ?_
              refine RunsI.only [1, 2, 5, 6, 7, 38, 69] [(1, .bool p1), (2, .pointer (some ⟨b2, 0, none⟩)), (5, .int .i64 t10), (6, .int .i64 t11), (7, .int .i64 t12), (38, .int .i64 p0_0), (69, .bool (p0_0 == 6))] (by kernel_rfl) (by kernel_rfl) ?_
              exact hj81 (p0_0 == 6) w41 h (h40.pick [0] (by decide))
      clear hJ43
      rcases of_cond h with ⟨hc38, h⟩ | ⟨hc38, h⟩
      · skip
        refine RunsI.fix 41 true hc38 (by kernel_rfl) (by kernel_rfl) ?_
        refine RunsI.cond true 24 (by kernel_rfl) ?_
        refine RunsI.go 1 [.c 26, .blk 0, .c 79] (by kernel_rfl) ?_
        refine RunsI.only [1, 2, 5, 6, 7, 10, 38, 41] [(1, .bool p1), (2, .pointer (some ⟨b2, 0, none⟩)), (5, .int .i64 t10), (6, .int .i64 t11), (7, .int .i64 t12), (10, .int .i64 t31), (38, .int .i64 p0_0), (41, .bool true)] (by kernel_rfl) (by kernel_rfl) ?_
        exact hj44 true w33 h (h32.pick [0] (by decide))
      · skip
        refine RunsI.fix 41 false hc38 (by kernel_rfl) (by kernel_rfl) ?_
        refine RunsI.cond false 25 (by kernel_rfl) ?_
        refine RunsI.region (by kernel_rfl) ?_
        refine RegI.pure 2 [1, 2, 5, 6, 7, 10, 38, 41] [(1, .bool p1), (2, .pointer (some ⟨b2, 0, none⟩)), (5, .int .i64 t10), (6, .int .i64 t11), (7, .int .i64 t12), (10, .int .i64 t31), (38, .int .i64 p0_0), (41, .bool (p0_0 == 4))] (by kernel_rfl) ?_
        refine RegI.done (by kernel_rfl) ?_
        refine RunsI.only [1, 2, 5, 6, 7, 10, 38, 41] [(1, .bool p1), (2, .pointer (some ⟨b2, 0, none⟩)), (5, .int .i64 t10), (6, .int .i64 t11), (7, .int .i64 t12), (10, .int .i64 t31), (38, .int .i64 p0_0), (41, .bool (p0_0 == 4))] (by kernel_rfl) (by kernel_rfl) ?_
        exact hj44 (p0_0 == 4) w33 h (h32.pick [0] (by decide))
  clear hJ35
  rcases of_cond h with ⟨hc25, h⟩ | ⟨hc25, h⟩
  · skip
    refine RunsI.fix 31 true hc25 (by kernel_rfl) (by kernel_rfl) ?_
    refine RunsI.cond true 10 (by kernel_rfl) ?_
    refine RunsI.region (by kernel_rfl) ?_
    refine RegI.pure 2 [1, 2, 5, 6, 7, 32, 33] [(1, .bool p1), (2, .pointer (some ⟨b2, 0, none⟩)), (5, .int .i64 t10), (6, .int .i64 t11), (7, .int .i64 t12), (32, .int .i64 (rdD t20 (Int.tmod (IntKind.wrap .i64 p0_1) 16))), (33, .pointer (some ⟨b2, 1, none⟩))] (by kernel_rfl) ?_
    refine RegI.op (by kernel_rfl) (OpE.loadBox 34 0 5 b2 1 (.int .u8 p0_1) h24 (by kernel_rfl) (by kernel_rfl) rfl (by kernel_rfl) ?_)
    obtain ⟨t30, hg29, h⟩ := of_bind h
    refine RegI.op (by kernel_rfl) (OpE.call 35 (by kernel_rfl) 24 #[.int .u8 p0_1] (by kernel_rfl) ((charabancref10_more_24_ok K _ w22  p0_1 h24.old' hg29).mono ?_))
    rintro _ w26 ⟨rfl, hb27⟩
    refine ⟨_, rfl, ?_⟩
    have h28 := h24.call hb27
    refine RegI.pure 2 [1, 2, 5, 6, 7, 10] [(1, .bool p1), (2, .pointer (some ⟨b2, 0, none⟩)), (5, .int .i64 t10), (6, .int .i64 t11), (7, .int .i64 t12), (10, .int .i64 (IntKind.wrap .i64 ((rdD t20 (Int.tmod (IntKind.wrap .i64 p0_1) 16)) + t30)))] (by kernel_rfl) ?_
    refine RegI.done (by kernel_rfl) ?_
    refine RunsI.only [1, 2, 5, 6, 7, 10] [(1, .bool p1), (2, .pointer (some ⟨b2, 0, none⟩)), (5, .int .i64 t10), (6, .int .i64 t11), (7, .int .i64 t12), (10, .int .i64 (IntKind.wrap .i64 ((rdD t20 (Int.tmod (IntKind.wrap .i64 p0_1) 16)) + t30)))] (by kernel_rfl) (by kernel_rfl) ?_
    exact hj36 (IntKind.wrap .i64 ((rdD t20 (Int.tmod (IntKind.wrap .i64 p0_1) 16)) + t30)) w26 h (h28.pick [0] (by decide))
  · skip
    refine RunsI.fix 31 false hc25 (by kernel_rfl) (by kernel_rfl) ?_
    refine RunsI.cond false 11 (by kernel_rfl) ?_
    refine RunsI.go 1 [.c 12] (by kernel_rfl) ?_
    refine RunsI.only [1, 2, 5, 6, 7, 10] [(1, .bool p1), (2, .pointer (some ⟨b2, 0, none⟩)), (5, .int .i64 t10), (6, .int .i64 t11), (7, .int .i64 t12), (10, .int .i64 (rdD t20 (Int.tmod (IntKind.wrap .i64 p0_1) 16)))] (by kernel_rfl) (by kernel_rfl) ?_
    exact hj36 (rdD t20 (Int.tmod (IntKind.wrap .i64 p0_1) 16)) w22 h (h24.pick [0] (by decide))
end

/-! ### charabanc/charabancref10.Asks (function 12) -/
section
def charabancref10_Asks_12.post (M0 : Nat → Prop) (w0 : World) (r : Bool) : Ending → World → Prop := fun e w => e = .returned (.bool r) ∧ Below w0.heap.size w0 w
def charabancref10_Asks_12.f (K : Nat) (p0_0 : Int) (p0_1 : Int) (p0_2 : Int) (p0_3 : Int) (p0_4 : Int) (p0_5 : Int) : Option Bool := (charabancref10_Of_10.f K p0_0 p0_1 p0_2 p0_3 p0_4 p0_5 true).bind fun t11 => (charabancref10_Of_10.f K p0_0 p0_1 p0_2 p0_3 p0_4 p0_5 false).bind fun t13 => some (t11 != t13)
set_option maxRecDepth 100000 in
theorem charabancref10_Asks_12_ok (K : Nat) (M0 : Nat → Prop) (w0 : World) (p0_0 : Int) (p0_1 : Int) (p0_2 : Int) (p0_3 : Int) (p0_4 : Int) (p0_5 : Int) (ho : ∀ b, M0 b → b < w0.heap.size) {r : Bool} (h : charabancref10_Asks_12.f K p0_0 p0_1 p0_2 p0_3 p0_4 p0_5 = some r) :
    Calls Tryd.prog 12 #[.agg #[.int .i64 p0_0, .int .u8 p0_1, .int .u8 p0_2, .int .u16 p0_3, .int .i64 p0_4, .int .i64 p0_5]] w0 (charabancref10_Asks_12.post M0 w0 r) := by
  unfold charabancref10_Asks_12.f at h
  have h0 : Holds M0 w0 w0 [] := Holds.start ho
  have h0 : Holds M0 w0 w0 [] := h0
  refine calls_of F12 rfl [.agg #[.int .i64 p0_0, .int .u8 p0_1, .int .u8 p0_2, .int .u16 p0_3, .int .i64 p0_4, .int .i64 p0_5]] (by kernel_rfl) ?_
  refine RunsI.go 1 [.c 1, .c 2] (by kernel_rfl) ?_
  refine RunsI.region (by kernel_rfl) ?_
  refine RegI.op (by kernel_rfl) (OpE.box 1 24 [.int .i64 p0_0, .int .u8 p0_1, .int .u8 p0_2, .int .u16 p0_3, .int .i64 p0_4, .int .i64 p0_5] h0 (by kernel_rfl) (by kernel_rfl) ?_)
  intro w1 b2 h3 hb4 hn5
  refine RegI.pure 1 [1] [(1, .pointer (some ⟨b2, 0, none⟩))] (by kernel_rfl) ?_
  refine RegI.done (by kernel_rfl) ?_
  refine RunsI.go 1 [.c 3, .c 4] (by kernel_rfl) ?_
  refine RunsI.any 6 (by kernel_rfl) (by kernel_rfl) (by kernel_rfl) (Kp ([] : List Nat) (World.drew w1)) ?_
  have h7 := h3.drew
  generalize World.drew w1 = w6 at h7 ⊢
  have hS8 := Kp.refl ([] : List Nat) w6
  refine AnyE.loadBox 0 3 0 24 b2 0 (.agg #[.int .i64 p0_0, .int .u8 p0_1, .int .u8 p0_2, .int .u16 p0_3, .int .i64 p0_4, .int .i64 p0_5]) [] h7 rfl (by kernel_rfl) hS8 rfl rfl (by kernel_rfl) (by kernel_rfl) ?_
  obtain ⟨t11, hg10, h⟩ := of_bind h
  refine AnyE.call 1 4 (.int .i64 t11) 10 #[.agg #[.int .i64 p0_0, .int .u8 p0_1, .int .u8 p0_2, .int .u16 p0_3, .int .i64 p0_4, .int .i64 p0_5], .bool true] (by kernel_rfl) hS8 (fun _ => by kernel_rfl) (fun w hk => charabancref10_Of_10_ok K (fun _ => False) w p0_0 p0_1 p0_2 p0_3 p0_4 p0_5 true (fun _ hf => hf.elim) hg10) ?_
  refine AnyE.loadBox 2 5 0 24 b2 0 (.agg #[.int .i64 p0_0, .int .u8 p0_1, .int .u8 p0_2, .int .u16 p0_3, .int .i64 p0_4, .int .i64 p0_5]) [] h7 rfl (by kernel_rfl) hS8 rfl rfl (by kernel_rfl) (by kernel_rfl) ?_
  obtain ⟨t13, hg12, h⟩ := of_bind h
  refine AnyE.call 3 6 (.int .i64 t13) 10 #[.agg #[.int .i64 p0_0, .int .u8 p0_1, .int .u8 p0_2, .int .u16 p0_3, .int .i64 p0_4, .int .i64 p0_5], .bool false] (by kernel_rfl) hS8 (fun _ => by kernel_rfl) (fun w hk => charabancref10_Of_10_ok K (fun _ => False) w p0_0 p0_1 p0_2 p0_3 p0_4 p0_5 false (fun _ hf => hf.elim) hg12) ?_
  refine AnyE.pure 4 7 (.bool (t11 != t13)) (by kernel_rfl) hS8 (fun _ => by kernel_rfl) ?_
  refine AnyE.pure 5 2 (.bool (t11 != t13)) (by kernel_rfl) hS8 (fun _ => by kernel_rfl) ?_
  refine AnyE.done (by kernel_rfl) (fun w14 hu15 => ?_)
  have h16 := h7.call hu15
  refine RunsI.only [2] [(2, .bool (t11 != t13))] (by kernel_rfl) (by kernel_rfl) ?_
  refine RunsI.ret (.bool (t11 != t13)) (by kernel_rfl) (by kernel_rfl) ?_
  obtain rfl := Option.some.inj h
  exact ⟨rfl, h16.below⟩
end

/-! ### charabanc/charabancref08.at (function 31) -/
section
def charabancref08_at_31.post (M0 : Nat → Prop) (w0 : World) (r : Int) : Ending → World → Prop := fun e w => e = .returned (.int .u8 r) ∧ Below w0.heap.size w0 w
def charabancref08_at_31.f (K : Nat) (p0 : List Int) (p1 : Int) : Option Int := cond (decide (p1 < (p0.length : Int))) (cond (inR p1 p0.length) (some (rdD p0 p1)) none) (some 0)
set_option maxRecDepth 100000 in
theorem charabancref08_at_31_ok (K : Nat) (M0 : Nat → Prop) (w0 : World) (pA0 : Option Addr) (pc0 : Nat) (p0 : List Int) (p1 : Int) (ho : ∀ b, M0 b → b < w0.heap.size) (hs0 : Sl (Rp.int .u8) w0 M0 (.slice pA0 p0.length pc0) p0) {r : Int} (h : charabancref08_at_31.f K p0 p1 = some r) :
    Calls Tryd.prog 31 #[.slice pA0 p0.length pc0, .int .i64 p1] w0 (charabancref08_at_31.post M0 w0 r) := by
  unfold charabancref08_at_31.f at h
  have h0 : Holds M0 w0 w0 [] := Holds.start ho
  have h00 := h0.addSl (Rp.int .u8) (.slice pA0 p0.length pc0) p0 (hs0.mono (fun _ _ hm => hm.elim id (fun hm => absurd hm (by simp [mines, sl]))))
  have h0 : Holds M0 w0 w0 [sl (Rp.int .u8) (.slice pA0 p0.length pc0) p0] := h00
  refine calls_of F31 rfl [.slice pA0 p0.length pc0, .int .i64 p1] (by kernel_rfl) ?_
  refine RunsI.go 1 [.c 1, .c 2] (by kernel_rfl) ?_
  refine RunsI.region (by kernel_rfl) ?_
  refine RegI.pure 1 [0, 1] [(0, .slice pA0 p0.length pc0), (1, .int .i64 p1)] (by kernel_rfl) ?_
  refine RegI.done (by kernel_rfl) ?_
  refine RunsI.go 2 [.c 4, .c 5, .c 10] (by kernel_rfl) ?_
  refine RunsI.region (by kernel_rfl) ?_
  refine RegI.pure 4 [0, 1, 8] [(0, .slice pA0 p0.length pc0), (1, .int .i64 p1), (8, .bool (decide (p1 < (p0.length : Int))))] (by kernel_rfl) ?_
  refine RegI.done (by kernel_rfl) ?_
  rcases of_cond h with ⟨hc1, h⟩ | ⟨hc1, h⟩
  · skip
    refine RunsI.fix 8 true hc1 (by kernel_rfl) (by kernel_rfl) ?_
    refine RunsI.cond true 6 (by kernel_rfl) ?_
    refine RunsI.go 1 [.c 7, .c 8, .c 10] (by kernel_rfl) ?_
    refine RunsI.region (by kernel_rfl) ?_
    refine RegI.pure 2 [9, 10] [(9, .slice pA0 p0.length pc0), (10, .int .i64 p1)] (by kernel_rfl) ?_
    obtain ⟨hc2, h⟩ := of_cond0 h
    refine RegI.op (by kernel_rfl) (OpE.idxSl 11 0 29 p1 h0 (by kernel_rfl) rfl (by kernel_rfl) (by kernel_rfl) hc2 ?_)
    intro b3 o4 cs5 hk6 h7
    obtain rfl := hk6
    refine RegI.op (by kernel_rfl) (OpE.loadCel 12 1 5 b3 o4 0 (.int .u8 (rdD p0 p1)) h7 (by kernel_rfl) (by kernel_rfl) rfl (by kernel_rfl) ?_)
    refine RegI.pure 1 [4] [(4, .int .u8 (rdD p0 p1))] (by kernel_rfl) ?_
    refine RegI.done (by kernel_rfl) ?_
    refine RunsI.ret (.int .u8 (rdD p0 p1)) (by kernel_rfl) (by kernel_rfl) ?_
    obtain rfl := Option.some.inj h
    exact ⟨rfl, h7.below⟩
  · skip
    refine RunsI.fix 8 false hc1 (by kernel_rfl) (by kernel_rfl) ?_
    refine RunsI.cond false 9 (by kernel_rfl) ?_
    refine RunsI.go 1 [.c 10] (by kernel_rfl) ?_
    refine RunsI.go 1 [.c 11, .c 12] (by kernel_rfl) ?_
    refine RunsI.region (by kernel_rfl) ?_
    refine RegI.pure 1 [4] [(4, .int .u8 0)] (by kernel_rfl) ?_
    refine RegI.done (by kernel_rfl) ?_
    refine RunsI.ret (.int .u8 0) (by kernel_rfl) (by kernel_rfl) ?_
    obtain rfl := Option.some.inj h
    exact ⟨rfl, h0.below⟩
end

/-! ### charabanc/charabancref08.plane (function 32) -/
section
def charabancref08_plane_32.post (M0 : Nat → Prop) (w0 : World) (r : Int) : Ending → World → Prop := fun e w => e = .returned (.int .i64 r) ∧ Below w0.heap.size w0 w
def charabancref08_plane_32.f (K : Nat) (p0 : Int) (p1 : Int) : Option Int := cond (p1 == 237) (some 2) (Let (fun (t3 : Bool) => cond t3 (some 5) (Let (fun (t11 : Bool) => cond t11 (some 6) (cond (p1 == 203) (some 1) (cond (p0 == 221) (some 3) (cond (p0 == 253) (some 4) (some 0))))) (fun j14 => cond (p1 == 203) (j14 (p0 == 253)) (j14 false)))) (fun j6 => cond (p1 == 203) (j6 (p0 == 221)) (j6 false)))
set_option maxRecDepth 100000 in
theorem charabancref08_plane_32_ok (K : Nat) (M0 : Nat → Prop) (w0 : World) (p0 : Int) (p1 : Int) (ho : ∀ b, M0 b → b < w0.heap.size) {r : Int} (h : charabancref08_plane_32.f K p0 p1 = some r) :
    Calls Tryd.prog 32 #[.int .u8 p0, .int .u8 p1] w0 (charabancref08_plane_32.post M0 w0 r) := by
  unfold charabancref08_plane_32.f at h
  have h0 : Holds M0 w0 w0 [] := Holds.start ho
  have h0 : Holds M0 w0 w0 [] := h0
  refine calls_of F32 rfl [.int .u8 p0, .int .u8 p1] (by kernel_rfl) ?_
  refine RunsI.go 1 [.c 1, .c 2] (by kernel_rfl) ?_
  refine RunsI.region (by kernel_rfl) ?_
  refine RegI.pure 1 [0, 1] [(0, .int .u8 p0), (1, .int .u8 p1)] (by kernel_rfl) ?_
  refine RegI.done (by kernel_rfl) ?_
  refine RunsI.go 3 [.c 5, .c 6, .blk 0, .c 41] (by kernel_rfl) ?_
  refine RunsI.region (by kernel_rfl) ?_
  refine RegI.pure 3 [0, 1, 5] [(0, .int .u8 p0), (1, .int .u8 p1), (5, .bool (p1 == 237))] (by kernel_rfl) ?_
  refine RegI.done (by kernel_rfl) ?_
  rcases of_cond h with ⟨hc1, h⟩ | ⟨hc1, h⟩
  · skip
    refine RunsI.fix 5 true hc1 (by kernel_rfl) (by kernel_rfl) ?_
    refine RunsI.cond true 7 (by kernel_rfl) ?_
    refine RunsI.go 1 [.c 8, .c 9, .blk 0, .c 41] (by kernel_rfl) ?_
    refine RunsI.region (by kernel_rfl) ?_
    refine RegI.pure 1 [4] [(4, .int .i64 2)] (by kernel_rfl) ?_
    refine RegI.done (by kernel_rfl) ?_
    refine RunsI.ret (.int .i64 2) (by kernel_rfl) (by kernel_rfl) ?_
    obtain rfl := Option.some.inj h
    exact ⟨rfl, h0.below⟩
  · skip
    refine RunsI.fix 5 false hc1 (by kernel_rfl) (by kernel_rfl) ?_
    refine RunsI.cond false 10 (by kernel_rfl) ?_
    refine RunsI.go 1 [.c 11, .c 12, .blk 0, .c 41] (by kernel_rfl) ?_
    refine RunsI.region (by kernel_rfl) ?_
    refine RegI.pure 3 [0, 1, 11] [(0, .int .u8 p0), (1, .int .u8 p1), (11, .bool (p1 == 203))] (by kernel_rfl) ?_
    obtain ⟨j6, hJ7, h⟩ := of_let h
    have hj8 : ∀ (t3 : Bool) (w5 : World), j6 t3 = some r → Holds M0 w0 w5 [] → RegI F32 11 [.c 12, .blk 0, .c 41] 7 [(0, .int .u8 p0), (1, .int .u8 p1), (8, .bool t3)] w5 (charabancref08_plane_32.post M0 w0 r) := by
      intro t3 w5 h h4
      rw [hJ7] at h
      clear hJ7
      dsimp only at h
      refine RegI.done (by kernel_rfl) ?_
      rcases of_cond h with ⟨hc9, h⟩ | ⟨hc9, h⟩
      · skip
        refine RunsI.fix 8 true hc9 (by kernel_rfl) (by kernel_rfl) ?_
        refine RunsI.cond true 13 (by kernel_rfl) ?_
        refine RunsI.go 1 [.c 14, .c 15, .blk 0, .c 41] (by kernel_rfl) ?_
        refine RunsI.region (by kernel_rfl) ?_
        refine RegI.pure 1 [4] [(4, .int .i64 5)] (by kernel_rfl) ?_
        refine RegI.done (by kernel_rfl) ?_
        refine RunsI.ret (.int .i64 5) (by kernel_rfl) (by kernel_rfl) ?_
        obtain rfl := Option.some.inj h
        exact ⟨rfl, h4.below⟩
      · skip
        refine RunsI.fix 8 false hc9 (by kernel_rfl) (by kernel_rfl) ?_
        refine RunsI.cond false 16 (by kernel_rfl) ?_
        refine RunsI.go 1 [.c 17, .c 18, .blk 0, .c 41] (by kernel_rfl) ?_
        refine RunsI.region (by kernel_rfl) ?_
        refine RegI.pure 3 [0, 1, 18] [(0, .int .u8 p0), (1, .int .u8 p1), (18, .bool (p1 == 203))] (by kernel_rfl) ?_
        obtain ⟨j14, hJ15, h⟩ := of_let h
        have hj16 : ∀ (t11 : Bool) (w13 : World), j14 t11 = some r → Holds M0 w0 w13 [] → RegI F32 17 [.c 18, .blk 0, .c 41] 7 [(0, .int .u8 p0), (1, .int .u8 p1), (15, .bool t11)] w13 (charabancref08_plane_32.post M0 w0 r) := by
          intro t11 w13 h h12
          rw [hJ15] at h
          clear hJ15
          dsimp only at h
          refine RegI.done (by kernel_rfl) ?_
          rcases of_cond h with ⟨hc17, h⟩ | ⟨hc17, h⟩
          · skip
            refine RunsI.fix 15 true hc17 (by kernel_rfl) (by kernel_rfl) ?_
            refine RunsI.cond true 19 (by kernel_rfl) ?_
            refine RunsI.go 1 [.c 20, .c 21, .blk 0, .c 41] (by kernel_rfl) ?_
            refine RunsI.region (by kernel_rfl) ?_
            refine RegI.pure 1 [4] [(4, .int .i64 6)] (by kernel_rfl) ?_
            refine RegI.done (by kernel_rfl) ?_
            refine RunsI.ret (.int .i64 6) (by kernel_rfl) (by kernel_rfl) ?_
            obtain rfl := Option.some.inj h
            exact ⟨rfl, h12.below⟩
          · skip
            refine RunsI.fix 15 false hc17 (by kernel_rfl) (by kernel_rfl) ?_
            refine RunsI.cond false 22 (by kernel_rfl) ?_
            refine RunsI.go 1 [.c 23, .c 24, .blk 0, .c 41] (by kernel_rfl) ?_
            refine RunsI.region (by kernel_rfl) ?_
            refine RegI.pure 3 [0, 22] [(0, .int .u8 p0), (22, .bool (p1 == 203))] (by kernel_rfl) ?_
            refine RegI.done (by kernel_rfl) ?_
            rcases of_cond h with ⟨hc18, h⟩ | ⟨hc18, h⟩
            · skip
              refine RunsI.fix 22 true hc18 (by kernel_rfl) (by kernel_rfl) ?_
              refine RunsI.cond true 25 (by kernel_rfl) ?_
              refine RunsI.go 1 [.c 26, .c 27, .blk 0, .c 41] (by kernel_rfl) ?_
              refine RunsI.region (by kernel_rfl) ?_
              refine RegI.pure 1 [4] [(4, .int .i64 1)] (by kernel_rfl) ?_
              refine RegI.done (by kernel_rfl) ?_
              refine RunsI.ret (.int .i64 1) (by kernel_rfl) (by kernel_rfl) ?_
              obtain rfl := Option.some.inj h
              exact ⟨rfl, h12.below⟩
            · skip
              refine RunsI.fix 22 false hc18 (by kernel_rfl) (by kernel_rfl) ?_
              refine RunsI.cond false 28 (by kernel_rfl) ?_
              refine RunsI.go 1 [.c 29, .c 30, .blk 0, .c 41] (by kernel_rfl) ?_
              refine RunsI.region (by kernel_rfl) ?_
              refine RegI.pure 3 [0, 25] [(0, .int .u8 p0), (25, .bool (p0 == 221))] (by kernel_rfl) ?_
              refine RegI.done (by kernel_rfl) ?_
              rcases of_cond h with ⟨hc19, h⟩ | ⟨hc19, h⟩
              · skip
                refine RunsI.fix 25 true hc19 (by kernel_rfl) (by kernel_rfl) ?_
                refine RunsI.cond true 31 (by kernel_rfl) ?_
                refine RunsI.go 1 [.c 32, .c 33, .blk 0, .c 41] (by kernel_rfl) ?_
                refine RunsI.region (by kernel_rfl) ?_
                refine RegI.pure 1 [4] [(4, .int .i64 3)] (by kernel_rfl) ?_
                refine RegI.done (by kernel_rfl) ?_
                refine RunsI.ret (.int .i64 3) (by kernel_rfl) (by kernel_rfl) ?_
                obtain rfl := Option.some.inj h
                exact ⟨rfl, h12.below⟩
              · skip
                refine RunsI.fix 25 false hc19 (by kernel_rfl) (by kernel_rfl) ?_
                refine RunsI.cond false 34 (by kernel_rfl) ?_
                refine RunsI.go 1 [.c 35, .c 36, .blk 0, .c 41] (by kernel_rfl) ?_
                refine RunsI.region (by kernel_rfl) ?_
                refine RegI.pure 3 [28] [(28, .bool (p0 == 253))] (by kernel_rfl) ?_
                refine RegI.done (by kernel_rfl) ?_
                rcases of_cond h with ⟨hc20, h⟩ | ⟨hc20, h⟩
                · skip
                  refine RunsI.fix 28 true hc20 (by kernel_rfl) (by kernel_rfl) ?_
                  refine RunsI.cond true 37 (by kernel_rfl) ?_
                  refine RunsI.go 1 [.c 38, .c 39, .blk 0, .c 41] (by kernel_rfl) ?_
                  refine RunsI.region (by kernel_rfl) ?_
                  refine RegI.pure 1 [4] [(4, .int .i64 4)] (by kernel_rfl) ?_
                  refine RegI.done (by kernel_rfl) ?_
                  refine RunsI.ret (.int .i64 4) (by kernel_rfl) (by kernel_rfl) ?_
                  obtain rfl := Option.some.inj h
                  exact ⟨rfl, h12.below⟩
                · skip
                  refine RunsI.fix 28 false hc20 (by kernel_rfl) (by kernel_rfl) ?_
                  refine RunsI.cond false 40 (by kernel_rfl) ?_
                  refine RunsI.go 1 [.blk 0, .c 41] (by kernel_rfl) ?_
                  refine RunsI.go 2 [.c 42, .c 43] (by kernel_rfl) ?_
                  refine RunsI.region (by kernel_rfl) ?_
                  refine RegI.pure 1 [4] [(4, .int .i64 0)] (by kernel_rfl) ?_
                  refine RegI.done (by kernel_rfl) ?_
                  refine RunsI.ret (.int .i64 0) (by kernel_rfl) (by kernel_rfl) ?_
                  obtain rfl := Option.some.inj h
                  exact ⟨rfl, h12.below⟩
        clear hJ15
        rcases of_cond h with ⟨hc10, h⟩ | ⟨hc10, h⟩
        · skip
          refine RegI.fix 18 true hc10 (by kernel_rfl) (by kernel_rfl) ?_
          refine RegI.pure 4 [0, 1, 15] [(0, .int .u8 p0), (1, .int .u8 p1), (15, .bool (p0 == 253))] (by kernel_rfl) ?_
          refine RegI.only [0, 1, 15] [(0, .int .u8 p0), (1, .int .u8 p1), (15, .bool (p0 == 253))] (by kernel_rfl) (by kernel_rfl) ?_
          exact hj16 (p0 == 253) w5 h (h4.pick [] (by decide))
        · skip
          refine RegI.fix 18 false hc10 (by kernel_rfl) (by kernel_rfl) ?_
          refine RegI.pure 4 [0, 1, 15] [(0, .int .u8 p0), (1, .int .u8 p1), (15, .bool false)] (by kernel_rfl) ?_
          refine RegI.only [0, 1, 15] [(0, .int .u8 p0), (1, .int .u8 p1), (15, .bool false)] (by kernel_rfl) (by kernel_rfl) ?_
          exact hj16 false w5 h (h4.pick [] (by decide))
    clear hJ7
    rcases of_cond h with ⟨hc2, h⟩ | ⟨hc2, h⟩
    · skip
      refine RegI.fix 11 true hc2 (by kernel_rfl) (by kernel_rfl) ?_
      refine RegI.pure 4 [0, 1, 8] [(0, .int .u8 p0), (1, .int .u8 p1), (8, .bool (p0 == 221))] (by kernel_rfl) ?_
      refine RegI.only [0, 1, 8] [(0, .int .u8 p0), (1, .int .u8 p1), (8, .bool (p0 == 221))] (by kernel_rfl) (by kernel_rfl) ?_
      exact hj8 (p0 == 221) w0 h (h0.pick [] (by decide))
    · skip
      refine RegI.fix 11 false hc2 (by kernel_rfl) (by kernel_rfl) ?_
      refine RegI.pure 4 [0, 1, 8] [(0, .int .u8 p0), (1, .int .u8 p1), (8, .bool false)] (by kernel_rfl) ?_
      refine RegI.only [0, 1, 8] [(0, .int .u8 p0), (1, .int .u8 p1), (8, .bool false)] (by kernel_rfl) (by kernel_rfl) ?_
      exact hj8 false w0 h (h0.pick [] (by decide))
end

/-! ### charabanc/charabancref08.one (function 36) -/
section
def charabancref08_one_36.post (M0 : Nat → Prop) (w0 : World) (r : Bool) : Ending → World → Prop := fun e w => e = .returned (.bool r) ∧ Below w0.heap.size w0 w
def charabancref08_one_36.f (K : Nat) (p0 : Int) (p1 : Int) (p2 : Int) : Option Bool := cond (p0 == 0) (cond (p2 == 6) (some true) (cond (p2 == 0) (some (decide (p1 ≥ 2))) (some false))) (cond (p0 == 3) (cond (p2 == 6) (some true) (cond (p2 == 3) (cond (p1 == 2) (some true) (some (p1 == 3))) (some false))) (some false))
set_option maxRecDepth 100000 in
theorem charabancref08_one_36_ok (K : Nat) (M0 : Nat → Prop) (w0 : World) (p0 : Int) (p1 : Int) (p2 : Int) (ho : ∀ b, M0 b → b < w0.heap.size) {r : Bool} (h : charabancref08_one_36.f K p0 p1 p2 = some r) :
    Calls Tryd.prog 36 #[.int .i64 p0, .int .i64 p1, .int .i64 p2] w0 (charabancref08_one_36.post M0 w0 r) := by
  unfold charabancref08_one_36.f at h
  have h0 : Holds M0 w0 w0 [] := Holds.start ho
  have h0 : Holds M0 w0 w0 [] := h0
  refine calls_of F36 rfl [.int .i64 p0, .int .i64 p1, .int .i64 p2] (by kernel_rfl) ?_
  refine RunsI.go 1 [.c 1, .c 2] (by kernel_rfl) ?_
  refine RunsI.region (by kernel_rfl) ?_
  refine RegI.pure 1 [0, 1, 2] [(0, .int .i64 p0), (1, .int .i64 p1), (2, .int .i64 p2)] (by kernel_rfl) ?_
  refine RegI.done (by kernel_rfl) ?_
  refine RunsI.go 2 [.c 4, .c 5, .c 10] (by kernel_rfl) ?_
  refine RunsI.region (by kernel_rfl) ?_
  refine RegI.pure 2 [0, 1, 2, 8] [(0, .int .i64 p0), (1, .int .i64 p1), (2, .int .i64 p2), (8, .bool (p0 == 0))] (by kernel_rfl) ?_
  refine RegI.done (by kernel_rfl) ?_
  rcases of_cond h with ⟨hc1, h⟩ | ⟨hc1, h⟩
  · skip
    refine RunsI.fix 8 true hc1 (by kernel_rfl) (by kernel_rfl) ?_
    refine RunsI.cond true 6 (by kernel_rfl) ?_
    refine RunsI.go 1 [.c 7, .c 8, .c 10] (by kernel_rfl) ?_
    refine RunsI.region (by kernel_rfl) ?_
    refine RegI.pure 3 [1, 2, 11] [(1, .int .i64 p1), (2, .int .i64 p2), (11, .bool (p2 == 6))] (by kernel_rfl) ?_
    rcases of_cond h with ⟨hc2, h⟩ | ⟨hc2, h⟩
    · skip
      refine RegI.fix 11 true hc2 (by kernel_rfl) (by kernel_rfl) ?_
      refine RegI.pure 8 [6] [(6, .bool true)] (by kernel_rfl) ?_
      refine RegI.done (by kernel_rfl) ?_
      refine RunsI.ret (.bool true) (by kernel_rfl) (by kernel_rfl) ?_
      obtain rfl := Option.some.inj h
      exact ⟨rfl, h0.below⟩
    · skip
      refine RegI.fix 11 false hc2 (by kernel_rfl) (by kernel_rfl) ?_
      refine RegI.pure 3 [1, 11, 14] [(1, .int .i64 p1), (11, .bool false), (14, .bool (p2 == 0))] (by kernel_rfl) ?_
      rcases of_cond h with ⟨hc3, h⟩ | ⟨hc3, h⟩
      · skip
        refine RegI.fix 14 true hc3 (by kernel_rfl) (by kernel_rfl) ?_
        refine RegI.pure 5 [6] [(6, .bool (decide (p1 ≥ 2)))] (by kernel_rfl) ?_
        refine RegI.done (by kernel_rfl) ?_
        refine RunsI.ret (.bool (decide (p1 ≥ 2))) (by kernel_rfl) (by kernel_rfl) ?_
        obtain rfl := Option.some.inj h
        exact ⟨rfl, h0.below⟩
      · skip
        refine RegI.fix 14 false hc3 (by kernel_rfl) (by kernel_rfl) ?_
        refine RegI.pure 5 [6] [(6, .bool false)] (by kernel_rfl) ?_
        refine RegI.done (by kernel_rfl) ?_
        refine RunsI.ret (.bool false) (by kernel_rfl) (by kernel_rfl) ?_
        obtain rfl := Option.some.inj h
        exact ⟨rfl, h0.below⟩
  · skip
    refine RunsI.fix 8 false hc1 (by kernel_rfl) (by kernel_rfl) ?_
    refine RunsI.cond false 9 (by kernel_rfl) ?_
    refine RunsI.go 1 [.c 10] (by kernel_rfl) ?_
    refine RunsI.go 1 [.c 11, .c 12] (by kernel_rfl) ?_
    refine RunsI.region (by kernel_rfl) ?_
    refine RegI.pure 3 [1, 2, 21] [(1, .int .i64 p1), (2, .int .i64 p2), (21, .bool (p0 == 3))] (by kernel_rfl) ?_
    rcases of_cond h with ⟨hc4, h⟩ | ⟨hc4, h⟩
    · skip
      refine RegI.fix 21 true hc4 (by kernel_rfl) (by kernel_rfl) ?_
      refine RegI.pure 3 [1, 2, 21, 24] [(1, .int .i64 p1), (2, .int .i64 p2), (21, .bool true), (24, .bool (p2 == 6))] (by kernel_rfl) ?_
      rcases of_cond h with ⟨hc5, h⟩ | ⟨hc5, h⟩
      · skip
        refine RegI.fix 24 true hc5 (by kernel_rfl) (by kernel_rfl) ?_
        refine RegI.pure 13 [6] [(6, .bool true)] (by kernel_rfl) ?_
        refine RegI.done (by kernel_rfl) ?_
        refine RunsI.ret (.bool true) (by kernel_rfl) (by kernel_rfl) ?_
        obtain rfl := Option.some.inj h
        exact ⟨rfl, h0.below⟩
      · skip
        refine RegI.fix 24 false hc5 (by kernel_rfl) (by kernel_rfl) ?_
        refine RegI.pure 3 [1, 21, 24, 27] [(1, .int .i64 p1), (21, .bool true), (24, .bool false), (27, .bool (p2 == 3))] (by kernel_rfl) ?_
        rcases of_cond h with ⟨hc6, h⟩ | ⟨hc6, h⟩
        · skip
          refine RegI.fix 27 true hc6 (by kernel_rfl) (by kernel_rfl) ?_
          refine RegI.pure 3 [1, 21, 24, 27, 30] [(1, .int .i64 p1), (21, .bool true), (24, .bool false), (27, .bool true), (30, .bool (p1 == 2))] (by kernel_rfl) ?_
          rcases of_cond h with ⟨hc7, h⟩ | ⟨hc7, h⟩
          · skip
            refine RegI.fix 30 true hc7 (by kernel_rfl) (by kernel_rfl) ?_
            refine RegI.pure 7 [6] [(6, .bool true)] (by kernel_rfl) ?_
            refine RegI.done (by kernel_rfl) ?_
            refine RunsI.ret (.bool true) (by kernel_rfl) (by kernel_rfl) ?_
            obtain rfl := Option.some.inj h
            exact ⟨rfl, h0.below⟩
          · skip
            refine RegI.fix 30 false hc7 (by kernel_rfl) (by kernel_rfl) ?_
            refine RegI.pure 7 [6] [(6, .bool (p1 == 3))] (by kernel_rfl) ?_
            refine RegI.done (by kernel_rfl) ?_
            refine RunsI.ret (.bool (p1 == 3)) (by kernel_rfl) (by kernel_rfl) ?_
            obtain rfl := Option.some.inj h
            exact ⟨rfl, h0.below⟩
        · skip
          refine RegI.fix 27 false hc6 (by kernel_rfl) (by kernel_rfl) ?_
          refine RegI.pure 10 [6] [(6, .bool false)] (by kernel_rfl) ?_
          refine RegI.done (by kernel_rfl) ?_
          refine RunsI.ret (.bool false) (by kernel_rfl) (by kernel_rfl) ?_
          obtain rfl := Option.some.inj h
          exact ⟨rfl, h0.below⟩
    · skip
      refine RegI.fix 21 false hc4 (by kernel_rfl) (by kernel_rfl) ?_
      refine RegI.pure 16 [6] [(6, .bool false)] (by kernel_rfl) ?_
      refine RegI.done (by kernel_rfl) ?_
      refine RunsI.ret (.bool false) (by kernel_rfl) (by kernel_rfl) ?_
      obtain rfl := Option.some.inj h
      exact ⟨rfl, h0.below⟩
end

/-! ### charabanc/charabancref08.two (function 37) -/
section
def charabancref08_two_37.post (M0 : Nat → Prop) (w0 : World) (r : Bool) : Ending → World → Prop := fun e w => e = .returned (.bool r) ∧ Below w0.heap.size w0 w
def charabancref08_two_37.f (K : Nat) (p0 : Int) (p1 : Int) (p2 : Int) (p3 : Int) (p4 : Int) : Option Bool := cond (p0 == 0) (cond (p2 == 1) (cond (p4 == 0) (some true) (cond (p2 == 2) (some (decide (p1 ≥ 4))) (some false))) (cond (p2 == 2) (some (decide (p1 ≥ 4))) (some false))) (cond (p0 == 3) (cond (p2 == 2) (some true) (cond (p2 == 3) (cond (p1 == 0) (some true) (cond (p2 == 4) (some true) (cond (p2 == 5) (cond (p4 == 1) (some (p3 == 0)) (some false)) (some false)))) (cond (p2 == 4) (some true) (cond (p2 == 5) (cond (p4 == 1) (some (p3 == 0)) (some false)) (some false))))) (some false))
set_option maxRecDepth 100000 in
theorem charabancref08_two_37_ok (K : Nat) (M0 : Nat → Prop) (w0 : World) (p0 : Int) (p1 : Int) (p2 : Int) (p3 : Int) (p4 : Int) (ho : ∀ b, M0 b → b < w0.heap.size) {r : Bool} (h : charabancref08_two_37.f K p0 p1 p2 p3 p4 = some r) :
    Calls Tryd.prog 37 #[.int .i64 p0, .int .i64 p1, .int .i64 p2, .int .i64 p3, .int .i64 p4] w0 (charabancref08_two_37.post M0 w0 r) := by
  unfold charabancref08_two_37.f at h
  have h0 : Holds M0 w0 w0 [] := Holds.start ho
  have h0 : Holds M0 w0 w0 [] := h0
  refine calls_of F37 rfl [.int .i64 p0, .int .i64 p1, .int .i64 p2, .int .i64 p3, .int .i64 p4] (by kernel_rfl) ?_
  refine RunsI.go 1 [.c 1, .c 2] (by kernel_rfl) ?_
  refine RunsI.region (by kernel_rfl) ?_
  refine RegI.pure 1 [0, 1, 2, 3, 4] [(0, .int .i64 p0), (1, .int .i64 p1), (2, .int .i64 p2), (3, .int .i64 p3), (4, .int .i64 p4)] (by kernel_rfl) ?_
  refine RegI.done (by kernel_rfl) ?_
  refine RunsI.go 2 [.c 4, .c 5, .c 10] (by kernel_rfl) ?_
  refine RunsI.region (by kernel_rfl) ?_
  refine RegI.pure 2 [0, 1, 2, 3, 4, 12] [(0, .int .i64 p0), (1, .int .i64 p1), (2, .int .i64 p2), (3, .int .i64 p3), (4, .int .i64 p4), (12, .bool (p0 == 0))] (by kernel_rfl) ?_
  refine RegI.done (by kernel_rfl) ?_
  rcases of_cond h with ⟨hc1, h⟩ | ⟨hc1, h⟩
  · skip
    refine RunsI.fix 12 true hc1 (by kernel_rfl) (by kernel_rfl) ?_
    refine RunsI.cond true 6 (by kernel_rfl) ?_
    refine RunsI.go 1 [.c 7, .c 8, .c 10] (by kernel_rfl) ?_
    refine RunsI.region (by kernel_rfl) ?_
    refine RegI.pure 3 [1, 2, 4, 15] [(1, .int .i64 p1), (2, .int .i64 p2), (4, .int .i64 p4), (15, .bool (p2 == 1))] (by kernel_rfl) ?_
    rcases of_cond h with ⟨hc2, h⟩ | ⟨hc2, h⟩
    · skip
      refine RegI.fix 15 true hc2 (by kernel_rfl) (by kernel_rfl) ?_
      refine RegI.pure 4 [1, 2, 19] [(1, .int .i64 p1), (2, .int .i64 p2), (19, .bool (p4 == 0))] (by kernel_rfl) ?_
      rcases of_cond h with ⟨hc3, h⟩ | ⟨hc3, h⟩
      · skip
        refine RegI.fix 19 true hc3 (by kernel_rfl) (by kernel_rfl) ?_
        refine RegI.pure 8 [10] [(10, .bool true)] (by kernel_rfl) ?_
        refine RegI.done (by kernel_rfl) ?_
        refine RunsI.ret (.bool true) (by kernel_rfl) (by kernel_rfl) ?_
        obtain rfl := Option.some.inj h
        exact ⟨rfl, h0.below⟩
      · skip
        refine RegI.fix 19 false hc3 (by kernel_rfl) (by kernel_rfl) ?_
        refine RegI.pure 3 [1, 19, 22] [(1, .int .i64 p1), (19, .bool false), (22, .bool (p2 == 2))] (by kernel_rfl) ?_
        rcases of_cond h with ⟨hc4, h⟩ | ⟨hc4, h⟩
        · skip
          refine RegI.fix 22 true hc4 (by kernel_rfl) (by kernel_rfl) ?_
          refine RegI.pure 5 [10] [(10, .bool (decide (p1 ≥ 4)))] (by kernel_rfl) ?_
          refine RegI.done (by kernel_rfl) ?_
          refine RunsI.ret (.bool (decide (p1 ≥ 4))) (by kernel_rfl) (by kernel_rfl) ?_
          obtain rfl := Option.some.inj h
          exact ⟨rfl, h0.below⟩
        · skip
          refine RegI.fix 22 false hc4 (by kernel_rfl) (by kernel_rfl) ?_
          refine RegI.pure 5 [10] [(10, .bool false)] (by kernel_rfl) ?_
          refine RegI.done (by kernel_rfl) ?_
          refine RunsI.ret (.bool false) (by kernel_rfl) (by kernel_rfl) ?_
          obtain rfl := Option.some.inj h
          exact ⟨rfl, h0.below⟩
    · skip
      refine RegI.fix 15 false hc2 (by kernel_rfl) (by kernel_rfl) ?_
      refine RegI.pure 7 [1, 19, 22] [(1, .int .i64 p1), (19, .bool false), (22, .bool (p2 == 2))] (by kernel_rfl) ?_
      rcases of_cond h with ⟨hc5, h⟩ | ⟨hc5, h⟩
      · skip
        refine RegI.fix 22 true hc5 (by kernel_rfl) (by kernel_rfl) ?_
        refine RegI.pure 5 [10] [(10, .bool (decide (p1 ≥ 4)))] (by kernel_rfl) ?_
        refine RegI.done (by kernel_rfl) ?_
        refine RunsI.ret (.bool (decide (p1 ≥ 4))) (by kernel_rfl) (by kernel_rfl) ?_
        obtain rfl := Option.some.inj h
        exact ⟨rfl, h0.below⟩
      · skip
        refine RegI.fix 22 false hc5 (by kernel_rfl) (by kernel_rfl) ?_
        refine RegI.pure 5 [10] [(10, .bool false)] (by kernel_rfl) ?_
        refine RegI.done (by kernel_rfl) ?_
        refine RunsI.ret (.bool false) (by kernel_rfl) (by kernel_rfl) ?_
        obtain rfl := Option.some.inj h
        exact ⟨rfl, h0.below⟩
  · skip
    refine RunsI.fix 12 false hc1 (by kernel_rfl) (by kernel_rfl) ?_
    refine RunsI.cond false 9 (by kernel_rfl) ?_
    refine RunsI.go 1 [.c 10] (by kernel_rfl) ?_
    refine RunsI.go 1 [.c 11, .c 12] (by kernel_rfl) ?_
    refine RunsI.region (by kernel_rfl) ?_
    refine RegI.pure 3 [1, 2, 3, 4, 29] [(1, .int .i64 p1), (2, .int .i64 p2), (3, .int .i64 p3), (4, .int .i64 p4), (29, .bool (p0 == 3))] (by kernel_rfl) ?_
    rcases of_cond h with ⟨hc6, h⟩ | ⟨hc6, h⟩
    · skip
      refine RegI.fix 29 true hc6 (by kernel_rfl) (by kernel_rfl) ?_
      refine RegI.pure 3 [1, 2, 3, 4, 29, 32] [(1, .int .i64 p1), (2, .int .i64 p2), (3, .int .i64 p3), (4, .int .i64 p4), (29, .bool true), (32, .bool (p2 == 2))] (by kernel_rfl) ?_
      rcases of_cond h with ⟨hc7, h⟩ | ⟨hc7, h⟩
      · skip
        refine RegI.fix 32 true hc7 (by kernel_rfl) (by kernel_rfl) ?_
        refine RegI.pure 25 [10] [(10, .bool true)] (by kernel_rfl) ?_
        refine RegI.done (by kernel_rfl) ?_
        refine RunsI.ret (.bool true) (by kernel_rfl) (by kernel_rfl) ?_
        obtain rfl := Option.some.inj h
        exact ⟨rfl, h0.below⟩
      · skip
        refine RegI.fix 32 false hc7 (by kernel_rfl) (by kernel_rfl) ?_
        refine RegI.pure 3 [1, 2, 3, 4, 29, 32, 35] [(1, .int .i64 p1), (2, .int .i64 p2), (3, .int .i64 p3), (4, .int .i64 p4), (29, .bool true), (32, .bool false), (35, .bool (p2 == 3))] (by kernel_rfl) ?_
        rcases of_cond h with ⟨hc8, h⟩ | ⟨hc8, h⟩
        · skip
          refine RegI.fix 35 true hc8 (by kernel_rfl) (by kernel_rfl) ?_
          refine RegI.pure 5 [2, 3, 4, 29, 40] [(2, .int .i64 p2), (3, .int .i64 p3), (4, .int .i64 p4), (29, .bool true), (40, .bool (p1 == 0))] (by kernel_rfl) ?_
          rcases of_cond h with ⟨hc9, h⟩ | ⟨hc9, h⟩
          · skip
            refine RegI.fix 40 true hc9 (by kernel_rfl) (by kernel_rfl) ?_
            refine RegI.pure 17 [10] [(10, .bool true)] (by kernel_rfl) ?_
            refine RegI.done (by kernel_rfl) ?_
            refine RunsI.ret (.bool true) (by kernel_rfl) (by kernel_rfl) ?_
            obtain rfl := Option.some.inj h
            exact ⟨rfl, h0.below⟩
          · skip
            refine RegI.fix 40 false hc9 (by kernel_rfl) (by kernel_rfl) ?_
            refine RegI.pure 4 [2, 3, 4, 29, 44] [(2, .int .i64 p2), (3, .int .i64 p3), (4, .int .i64 p4), (29, .bool true), (44, .bool (p2 == 4))] (by kernel_rfl) ?_
            rcases of_cond h with ⟨hc10, h⟩ | ⟨hc10, h⟩
            · skip
              refine RegI.fix 44 true hc10 (by kernel_rfl) (by kernel_rfl) ?_
              refine RegI.pure 13 [10] [(10, .bool true)] (by kernel_rfl) ?_
              refine RegI.done (by kernel_rfl) ?_
              refine RunsI.ret (.bool true) (by kernel_rfl) (by kernel_rfl) ?_
              obtain rfl := Option.some.inj h
              exact ⟨rfl, h0.below⟩
            · skip
              refine RegI.fix 44 false hc10 (by kernel_rfl) (by kernel_rfl) ?_
              refine RegI.pure 3 [3, 4, 29, 44, 47] [(3, .int .i64 p3), (4, .int .i64 p4), (29, .bool true), (44, .bool false), (47, .bool (p2 == 5))] (by kernel_rfl) ?_
              rcases of_cond h with ⟨hc11, h⟩ | ⟨hc11, h⟩
              · skip
                refine RegI.fix 47 true hc11 (by kernel_rfl) (by kernel_rfl) ?_
                refine RegI.pure 4 [3, 29, 44, 51] [(3, .int .i64 p3), (29, .bool true), (44, .bool false), (51, .bool (p4 == 1))] (by kernel_rfl) ?_
                rcases of_cond h with ⟨hc12, h⟩ | ⟨hc12, h⟩
                · skip
                  refine RegI.fix 51 true hc12 (by kernel_rfl) (by kernel_rfl) ?_
                  refine RegI.pure 6 [10] [(10, .bool (p3 == 0))] (by kernel_rfl) ?_
                  refine RegI.done (by kernel_rfl) ?_
                  refine RunsI.ret (.bool (p3 == 0)) (by kernel_rfl) (by kernel_rfl) ?_
                  obtain rfl := Option.some.inj h
                  exact ⟨rfl, h0.below⟩
                · skip
                  refine RegI.fix 51 false hc12 (by kernel_rfl) (by kernel_rfl) ?_
                  refine RegI.pure 6 [10] [(10, .bool false)] (by kernel_rfl) ?_
                  refine RegI.done (by kernel_rfl) ?_
                  refine RunsI.ret (.bool false) (by kernel_rfl) (by kernel_rfl) ?_
                  obtain rfl := Option.some.inj h
                  exact ⟨rfl, h0.below⟩
              · skip
                refine RegI.fix 47 false hc11 (by kernel_rfl) (by kernel_rfl) ?_
                refine RegI.pure 10 [10] [(10, .bool false)] (by kernel_rfl) ?_
                refine RegI.done (by kernel_rfl) ?_
                refine RunsI.ret (.bool false) (by kernel_rfl) (by kernel_rfl) ?_
                obtain rfl := Option.some.inj h
                exact ⟨rfl, h0.below⟩
        · skip
          refine RegI.fix 35 false hc8 (by kernel_rfl) (by kernel_rfl) ?_
          refine RegI.pure 9 [2, 3, 4, 29, 44] [(2, .int .i64 p2), (3, .int .i64 p3), (4, .int .i64 p4), (29, .bool true), (44, .bool (p2 == 4))] (by kernel_rfl) ?_
          rcases of_cond h with ⟨hc13, h⟩ | ⟨hc13, h⟩
          · skip
            refine RegI.fix 44 true hc13 (by kernel_rfl) (by kernel_rfl) ?_
            refine RegI.pure 13 [10] [(10, .bool true)] (by kernel_rfl) ?_
            refine RegI.done (by kernel_rfl) ?_
            refine RunsI.ret (.bool true) (by kernel_rfl) (by kernel_rfl) ?_
            obtain rfl := Option.some.inj h
            exact ⟨rfl, h0.below⟩
          · skip
            refine RegI.fix 44 false hc13 (by kernel_rfl) (by kernel_rfl) ?_
            refine RegI.pure 3 [3, 4, 29, 44, 47] [(3, .int .i64 p3), (4, .int .i64 p4), (29, .bool true), (44, .bool false), (47, .bool (p2 == 5))] (by kernel_rfl) ?_
            rcases of_cond h with ⟨hc14, h⟩ | ⟨hc14, h⟩
            · skip
              refine RegI.fix 47 true hc14 (by kernel_rfl) (by kernel_rfl) ?_
              refine RegI.pure 4 [3, 29, 44, 51] [(3, .int .i64 p3), (29, .bool true), (44, .bool false), (51, .bool (p4 == 1))] (by kernel_rfl) ?_
              rcases of_cond h with ⟨hc15, h⟩ | ⟨hc15, h⟩
              · skip
                refine RegI.fix 51 true hc15 (by kernel_rfl) (by kernel_rfl) ?_
                refine RegI.pure 6 [10] [(10, .bool (p3 == 0))] (by kernel_rfl) ?_
                refine RegI.done (by kernel_rfl) ?_
                refine RunsI.ret (.bool (p3 == 0)) (by kernel_rfl) (by kernel_rfl) ?_
                obtain rfl := Option.some.inj h
                exact ⟨rfl, h0.below⟩
              · skip
                refine RegI.fix 51 false hc15 (by kernel_rfl) (by kernel_rfl) ?_
                refine RegI.pure 6 [10] [(10, .bool false)] (by kernel_rfl) ?_
                refine RegI.done (by kernel_rfl) ?_
                refine RunsI.ret (.bool false) (by kernel_rfl) (by kernel_rfl) ?_
                obtain rfl := Option.some.inj h
                exact ⟨rfl, h0.below⟩
            · skip
              refine RegI.fix 47 false hc14 (by kernel_rfl) (by kernel_rfl) ?_
              refine RegI.pure 10 [10] [(10, .bool false)] (by kernel_rfl) ?_
              refine RegI.done (by kernel_rfl) ?_
              refine RunsI.ret (.bool false) (by kernel_rfl) (by kernel_rfl) ?_
              obtain rfl := Option.some.inj h
              exact ⟨rfl, h0.below⟩
    · skip
      refine RegI.fix 29 false hc6 (by kernel_rfl) (by kernel_rfl) ?_
      refine RegI.pure 28 [10] [(10, .bool false)] (by kernel_rfl) ?_
      refine RegI.done (by kernel_rfl) ?_
      refine RunsI.ret (.bool false) (by kernel_rfl) (by kernel_rfl) ?_
      obtain rfl := Option.some.inj h
      exact ⟨rfl, h0.below⟩
end

/-! ### charabanc/charabancref08.Size (function 33) -/
section
def charabancref08_Size_33.post (M0 : Nat → Prop) (w0 : World) (r : Int) : Ending → World → Prop := fun e w => e = .returned (.int .i64 r) ∧ Below w0.heap.size w0 w
def charabancref08_Size_33.f (K : Nat) (p0 : Int) (p1 : Int) : Option Int := (charabancref08_Fields_22.f K p1).bind fun yt5 => Let (fun (t12 : Bool) => cond t12 ((charabancref08_one_36.f K yt5.1 yt5.2.1 yt5.2.2.1).bind fun t23 => (charabancref08_two_37.f K yt5.1 yt5.2.1 yt5.2.2.1 yt5.2.2.2.1 yt5.2.2.2.2).bind fun t28 => cond t23 (some 1) (cond t28 (some 2) (some 0))) (cond (p0 == 2) (Let (fun (t33 : Bool) => cond t33 (some 2) (some 0)) (fun j36 => cond (yt5.1 == 1) (j36 (yt5.2.2.1 == 3)) (j36 false))) (some 0))) (fun j15 => cond (p0 == 0) (j15 true) (cond (p0 == 3) (j15 true) (j15 (p0 == 4))))
set_option maxRecDepth 100000 in
theorem charabancref08_Size_33_ok (K : Nat) (M0 : Nat → Prop) (w0 : World) (p0 : Int) (p1 : Int) (ho : ∀ b, M0 b → b < w0.heap.size) {r : Int} (h : charabancref08_Size_33.f K p0 p1 = some r) :
    Calls Tryd.prog 33 #[.int .i64 p0, .int .u8 p1] w0 (charabancref08_Size_33.post M0 w0 r) := by
  unfold charabancref08_Size_33.f at h
  have h0 : Holds M0 w0 w0 [] := Holds.start ho
  have h0 : Holds M0 w0 w0 [] := h0
  refine calls_of F33 rfl [.int .i64 p0, .int .u8 p1] (by kernel_rfl) ?_
  refine RunsI.go 1 [.c 1, .c 2] (by kernel_rfl) ?_
  refine RunsI.region (by kernel_rfl) ?_
  refine RegI.pure 1 [0, 1] [(0, .int .i64 p0), (1, .int .u8 p1)] (by kernel_rfl) ?_
  refine RegI.done (by kernel_rfl) ?_
  refine RunsI.go 1 [.c 3, .c 4] (by kernel_rfl) ?_
  refine RunsI.region (by kernel_rfl) ?_
  refine RegI.pure 1 [0, 13] [(0, .int .i64 p0), (13, .int .u8 p1)] (by kernel_rfl) ?_
  obtain ⟨⟨t5, t6, t7, t8, t9⟩, hg4, h⟩ := of_bind h
  dsimp only at h
  refine RegI.op (by kernel_rfl) (OpE.call 14 (by kernel_rfl) 22 #[.int .u8 p1] (by kernel_rfl) ((charabancref08_Fields_22_ok K _ w0  p1 h0.old' hg4).mono ?_))
  rintro _ w1 ⟨rfl, hb2⟩
  refine ⟨_, rfl, ?_⟩
  have h3 := h0.call hb2
  refine RegI.pure 11 [0, 5, 6, 7, 8, 9] [(0, .int .i64 p0), (5, .int .i64 t5), (6, .int .i64 t6), (7, .int .i64 t7), (8, .int .i64 t8), (9, .int .i64 t9)] (by kernel_rfl) ?_
  refine RegI.done (by kernel_rfl) ?_
  refine RunsI.go 2 [.c 6, .c 7, .c 49] (by kernel_rfl) ?_
  refine RunsI.region (by kernel_rfl) ?_
  refine RegI.pure 1 [5, 6, 7, 8, 9, 20] [(5, .int .i64 t5), (6, .int .i64 t6), (7, .int .i64 t7), (8, .int .i64 t8), (9, .int .i64 t9), (20, .int .i64 p0)] (by kernel_rfl) ?_
  refine RegI.done (by kernel_rfl) ?_
  refine RunsI.go 3 [.c 10, .c 11, .c 18, .blk 0, .c 49] (by kernel_rfl) ?_
  refine RunsI.region (by kernel_rfl) ?_
  refine RegI.pure 2 [5, 6, 7, 8, 9, 20, 21] [(5, .int .i64 t5), (6, .int .i64 t6), (7, .int .i64 t7), (8, .int .i64 t8), (9, .int .i64 t9), (20, .int .i64 p0), (21, .bool (p0 == 0))] (by kernel_rfl) ?_
  refine RegI.done (by kernel_rfl) ?_
  obtain ⟨j15, hJ16, h⟩ := of_let h
  have hj17 : ∀ (t12 : Bool) (w14 : World), j15 t12 = some r → Holds M0 w0 w14 [] → RunsI F33 [.c 18, .blk 0, .c 49] [(5, .int .i64 t5), (6, .int .i64 t6), (7, .int .i64 t7), (8, .int .i64 t8), (9, .int .i64 t9), (20, .int .i64 p0), (21, .bool t12)] w14 (charabancref08_Size_33.post M0 w0 r) := by
    intro t12 w14 h h13
    rw [hJ16] at h
    clear hJ16
    dsimp only at h
    rcases of_cond h with ⟨hc18, h⟩ | ⟨hc18, h⟩
    · skip
      refine RunsI.fix 21 true hc18 (by kernel_rfl) (by kernel_rfl) ?_
      refine RunsI.cond true 19 (by kernel_rfl) ?_
      refine RunsI.go 1 [.c 20, .c 21, .blk 0, .c 49] (by kernel_rfl) ?_
      refine RunsI.region (by kernel_rfl) ?_
      refine RegI.pure 3 [5, 6, 7, 8, 9, 25, 26, 27] [(5, .int .i64 t5), (6, .int .i64 t6), (7, .int .i64 t7), (8, .int .i64 t8), (9, .int .i64 t9), (25, .int .i64 t5), (26, .int .i64 t6), (27, .int .i64 t7)] (by kernel_rfl) ?_
      obtain ⟨t23, hg22, h⟩ := of_bind h
      refine RegI.op (by kernel_rfl) (OpE.call 28 (by kernel_rfl) 36 #[.int .i64 t5, .int .i64 t6, .int .i64 t7] (by kernel_rfl) ((charabancref08_one_36_ok K _ w14  t5 t6 t7 h13.old' hg22).mono ?_))
      rintro _ w19 ⟨rfl, hb20⟩
      refine ⟨_, rfl, ?_⟩
      have h21 := h13.call hb20
      refine RegI.pure 1 [5, 6, 7, 8, 9, 10] [(5, .int .i64 t5), (6, .int .i64 t6), (7, .int .i64 t7), (8, .int .i64 t8), (9, .int .i64 t9), (10, .bool t23)] (by kernel_rfl) ?_
      refine RegI.done (by kernel_rfl) ?_
      refine RunsI.go 1 [.c 22, .c 23, .blk 0, .c 49] (by kernel_rfl) ?_
      refine RunsI.region (by kernel_rfl) ?_
      refine RegI.pure 5 [10, 29, 30, 31, 32, 33] [(10, .bool t23), (29, .int .i64 t5), (30, .int .i64 t6), (31, .int .i64 t7), (32, .int .i64 t8), (33, .int .i64 t9)] (by kernel_rfl) ?_
      obtain ⟨t28, hg27, h⟩ := of_bind h
      refine RegI.op (by kernel_rfl) (OpE.call 34 (by kernel_rfl) 37 #[.int .i64 t5, .int .i64 t6, .int .i64 t7, .int .i64 t8, .int .i64 t9] (by kernel_rfl) ((charabancref08_two_37_ok K _ w19  t5 t6 t7 t8 t9 h21.old' hg27).mono ?_))
      rintro _ w24 ⟨rfl, hb25⟩
      refine ⟨_, rfl, ?_⟩
      have h26 := h21.call hb25
      refine RegI.pure 1 [10, 11] [(10, .bool t23), (11, .bool t28)] (by kernel_rfl) ?_
      refine RegI.done (by kernel_rfl) ?_
      refine RunsI.go 2 [.c 25, .c 26, .c 31, .blk 0, .c 49] (by kernel_rfl) ?_
      refine RunsI.region (by kernel_rfl) ?_
      refine RegI.pure 1 [11, 35] [(11, .bool t28), (35, .bool t23)] (by kernel_rfl) ?_
      refine RegI.done (by kernel_rfl) ?_
      rcases of_cond h with ⟨hc29, h⟩ | ⟨hc29, h⟩
      · skip
        refine RunsI.fix 35 true hc29 (by kernel_rfl) (by kernel_rfl) ?_
        refine RunsI.cond true 27 (by kernel_rfl) ?_
        refine RunsI.go 1 [.c 28, .c 29, .c 31, .blk 0, .c 49] (by kernel_rfl) ?_
        refine RunsI.region (by kernel_rfl) ?_
        refine RegI.pure 1 [4] [(4, .int .i64 1)] (by kernel_rfl) ?_
        refine RegI.done (by kernel_rfl) ?_
        refine RunsI.ret (.int .i64 1) (by kernel_rfl) (by kernel_rfl) ?_
        obtain rfl := Option.some.inj h
        exact ⟨rfl, h26.below⟩
      · skip
        refine RunsI.fix 35 false hc29 (by kernel_rfl) (by kernel_rfl) ?_
        refine RunsI.cond false 30 (by kernel_rfl) ?_
        refine RunsI.go 1 [.c 31, .blk 0, .c 49] (by kernel_rfl) ?_
        refine RunsI.go 1 [.c 32, .c 33, .blk 0, .c 49] (by kernel_rfl) ?_
        refine RunsI.region (by kernel_rfl) ?_
        refine RegI.pure 1 [36] [(36, .bool t28)] (by kernel_rfl) ?_
        refine RegI.done (by kernel_rfl) ?_
        rcases of_cond h with ⟨hc30, h⟩ | ⟨hc30, h⟩
        · skip
          refine RunsI.fix 36 true hc30 (by kernel_rfl) (by kernel_rfl) ?_
          refine RunsI.cond true 34 (by kernel_rfl) ?_
          refine RunsI.go 1 [.c 35, .c 36, .blk 0, .c 49] (by kernel_rfl) ?_
          refine RunsI.region (by kernel_rfl) ?_
          refine RegI.pure 1 [4] [(4, .int .i64 2)] (by kernel_rfl) ?_
          refine RegI.done (by kernel_rfl) ?_
          refine RunsI.ret (.int .i64 2) (by kernel_rfl) (by kernel_rfl) ?_
          obtain rfl := Option.some.inj h
          exact ⟨rfl, h26.below⟩
        · skip
          refine RunsI.fix 36 false hc30 (by kernel_rfl) (by kernel_rfl) ?_
          refine RunsI.cond false 37 (by kernel_rfl) ?_
          refine RunsI.go 1 [.blk 0, .c 49] (by kernel_rfl) ?_
          refine RunsI.go 2 [.c 50, .c 51] (by kernel_rfl) ?_
          refine RunsI.region (by kernel_rfl) ?_
          refine RegI.pure 1 [4] [(4, .int .i64 0)] (by kernel_rfl) ?_
          refine RegI.done (by kernel_rfl) ?_
          refine RunsI.ret (.int .i64 0) (by kernel_rfl) (by kernel_rfl) ?_
          obtain rfl := Option.some.inj h
          exact ⟨rfl, h26.below⟩
    · skip
      refine RunsI.fix 21 false hc18 (by kernel_rfl) (by kernel_rfl) ?_
      refine RunsI.cond false 38 (by kernel_rfl) ?_
      refine RunsI.go 1 [.c 39, .c 40, .blk 0, .c 49] (by kernel_rfl) ?_
      refine RunsI.region (by kernel_rfl) ?_
      refine RegI.pure 2 [5, 7, 37] [(5, .int .i64 t5), (7, .int .i64 t7), (37, .bool (p0 == 2))] (by kernel_rfl) ?_
      refine RegI.done (by kernel_rfl) ?_
      rcases of_cond h with ⟨hc31, h⟩ | ⟨hc31, h⟩
      · skip
        refine RunsI.fix 37 true hc31 (by kernel_rfl) (by kernel_rfl) ?_
        refine RunsI.cond true 41 (by kernel_rfl) ?_
        refine RunsI.go 1 [.c 42, .c 43, .blk 0, .c 49] (by kernel_rfl) ?_
        refine RunsI.region (by kernel_rfl) ?_
        refine RegI.pure 3 [7, 41] [(7, .int .i64 t7), (41, .bool (t5 == 1))] (by kernel_rfl) ?_
        obtain ⟨j36, hJ37, h⟩ := of_let h
        have hj38 : ∀ (t33 : Bool) (w35 : World), j36 t33 = some r → Holds M0 w0 w35 [] → RegI F33 42 [.c 43, .blk 0, .c 49] 6 [(44, .bool t33)] w35 (charabancref08_Size_33.post M0 w0 r) := by
          intro t33 w35 h h34
          rw [hJ37] at h
          clear hJ37
          dsimp only at h
          refine RegI.done (by kernel_rfl) ?_
          rcases of_cond h with ⟨hc39, h⟩ | ⟨hc39, h⟩
          · skip
            refine RunsI.fix 44 true hc39 (by kernel_rfl) (by kernel_rfl) ?_
            refine RunsI.cond true 44 (by kernel_rfl) ?_
            refine RunsI.go 1 [.c 45, .c 46, .blk 0, .c 49] (by kernel_rfl) ?_
            refine RunsI.region (by kernel_rfl) ?_
            refine RegI.pure 1 [4] [(4, .int .i64 2)] (by kernel_rfl) ?_
            refine RegI.done (by kernel_rfl) ?_
            refine RunsI.ret (.int .i64 2) (by kernel_rfl) (by kernel_rfl) ?_
            obtain rfl := Option.some.inj h
            exact ⟨rfl, h34.below⟩
          · skip
            refine RunsI.fix 44 false hc39 (by kernel_rfl) (by kernel_rfl) ?_
            refine RunsI.cond false 47 (by kernel_rfl) ?_
            refine RunsI.go 1 [.blk 0, .c 49] (by kernel_rfl) ?_
            refine RunsI.go 2 [.c 50, .c 51] (by kernel_rfl) ?_
            refine RunsI.region (by kernel_rfl) ?_
            refine RegI.pure 1 [4] [(4, .int .i64 0)] (by kernel_rfl) ?_
            refine RegI.done (by kernel_rfl) ?_
            refine RunsI.ret (.int .i64 0) (by kernel_rfl) (by kernel_rfl) ?_
            obtain rfl := Option.some.inj h
            exact ⟨rfl, h34.below⟩
        clear hJ37
        rcases of_cond h with ⟨hc32, h⟩ | ⟨hc32, h⟩
        · skip
          refine RegI.fix 41 true hc32 (by kernel_rfl) (by kernel_rfl) ?_
          refine RegI.pure 3 [44] [(44, .bool (t7 == 3))] (by kernel_rfl) ?_
          refine RegI.only [44] [(44, .bool (t7 == 3))] (by kernel_rfl) (by kernel_rfl) ?_
          exact hj38 (t7 == 3) w14 h (h13.pick [] (by decide))
        · skip
          refine RegI.fix 41 false hc32 (by kernel_rfl) (by kernel_rfl) ?_
          refine RegI.pure 3 [44] [(44, .bool false)] (by kernel_rfl) ?_
          refine RegI.only [44] [(44, .bool false)] (by kernel_rfl) (by kernel_rfl) ?_
          exact hj38 false w14 h (h13.pick [] (by decide))
      · skip
        refine RunsI.fix 37 false hc31 (by kernel_rfl) (by kernel_rfl) ?_
        refine RunsI.cond false 48 (by kernel_rfl) ?_
        refine RunsI.go 1 [.blk 0, .c 49] (by kernel_rfl) ?_
        refine RunsI.go 2 [.c 50, .c 51] (by kernel_rfl) ?_
        refine RunsI.region (by kernel_rfl) ?_
        refine RegI.pure 1 [4] [(4, .int .i64 0)] (by kernel_rfl) ?_
        refine RegI.done (by kernel_rfl) ?_
        refine RunsI.ret (.int .i64 0) (by kernel_rfl) (by kernel_rfl) ?_
        obtain rfl := Option.some.inj h
        exact ⟨rfl, h13.below⟩
  clear hJ16
  rcases of_cond h with ⟨hc10, h⟩ | ⟨hc10, h⟩
  · skip
    refine RunsI.fix 21 true hc10 (by kernel_rfl) (by kernel_rfl) ?_
    refine RunsI.cond true 12 (by kernel_rfl) ?_
    refine RunsI.go 1 [.c 18, .blk 0, .c 49] (by kernel_rfl) ?_
    refine RunsI.only [5, 6, 7, 8, 9, 20, 21] [(5, .int .i64 t5), (6, .int .i64 t6), (7, .int .i64 t7), (8, .int .i64 t8), (9, .int .i64 t9), (20, .int .i64 p0), (21, .bool true)] (by kernel_rfl) (by kernel_rfl) ?_
    exact hj17 true w1 h (h3.pick [] (by decide))
  · skip
    refine RunsI.fix 21 false hc10 (by kernel_rfl) (by kernel_rfl) ?_
    refine RunsI.cond false 13 (by kernel_rfl) ?_
    refine RunsI.go 1 [.c 14, .c 15, .c 18, .blk 0, .c 49] (by kernel_rfl) ?_
    refine RunsI.region (by kernel_rfl) ?_
    refine RegI.pure 2 [5, 6, 7, 8, 9, 20, 21] [(5, .int .i64 t5), (6, .int .i64 t6), (7, .int .i64 t7), (8, .int .i64 t8), (9, .int .i64 t9), (20, .int .i64 p0), (21, .bool (p0 == 3))] (by kernel_rfl) ?_
    refine RegI.done (by kernel_rfl) ?_
    rcases of_cond h with ⟨hc11, h⟩ | ⟨hc11, h⟩
    · skip
      refine RunsI.fix 21 true hc11 (by kernel_rfl) (by kernel_rfl) ?_
      refine RunsI.cond true 16 (by kernel_rfl) ?_
      refine RunsI.go 1 [.c 18, .blk 0, .c 49] (by kernel_rfl) ?_
      refine RunsI.only [5, 6, 7, 8, 9, 20, 21] [(5, .int .i64 t5), (6, .int .i64 t6), (7, .int .i64 t7), (8, .int .i64 t8), (9, .int .i64 t9), (20, .int .i64 p0), (21, .bool true)] (by kernel_rfl) (by kernel_rfl) ?_
      exact hj17 true w1 h (h3.pick [] (by decide))
    · skip
      refine RunsI.fix 21 false hc11 (by kernel_rfl) (by kernel_rfl) ?_
      refine RunsI.cond false 17 (by kernel_rfl) ?_
      refine RunsI.region (by kernel_rfl) ?_
      refine RegI.pure 2 [5, 6, 7, 8, 9, 20, 21] [(5, .int .i64 t5), (6, .int .i64 t6), (7, .int .i64 t7), (8, .int .i64 t8), (9, .int .i64 t9), (20, .int .i64 p0), (21, .bool (p0 == 4))] (by kernel_rfl) ?_
      refine RegI.done (by kernel_rfl) ?_
      refine RunsI.only [5, 6, 7, 8, 9, 20, 21] [(5, .int .i64 t5), (6, .int .i64 t6), (7, .int .i64 t7), (8, .int .i64 t8), (9, .int .i64 t9), (20, .int .i64 p0), (21, .bool (p0 == 4))] (by kernel_rfl) (by kernel_rfl) ?_
      exact hj17 (p0 == 4) w1 h (h3.pick [] (by decide))
end

/-! ### charabanc/charabancref08.Next (function 28) -/
section
def charabancref08_Next_28.post (M0 : Nat → Prop) (w0 : World) (r : Int × Int × Int × Int × Int × Int × Bool) : Ending → World → Prop := fun e w => e = .returned (.tuple #[.agg #[.int .i64 r.1, .int .u8 r.2.1, .int .u8 r.2.2.1, .int .u16 r.2.2.2.1, .int .i64 r.2.2.2.2.1, .int .i64 r.2.2.2.2.2.1], .bool r.2.2.2.2.2.2]) ∧ Below w0.heap.size w0 w
def charabancref08_Next_28.l0 (K : Nat) (p0 : List Int) : Nat → Int → Int → Int → Option (Int × Int × Int)
  | 0, _, _, _ => none
  | k + 1, t15, t16, t18 => (charabancref08_at_31.f K p0 t15).bind fun t23 => Let (fun (t30 : Bool) => cond t30 (cond (decide (t15 > 0)) (cond (inR t15 p0.length) (charabancref08_Next_28.l0 K p0 k (IntKind.wrap .i64 (t15 + 1)) (rdD p0 t15) (IntKind.wrap .i64 (t18 + 1))) none) (cond (inR t15 p0.length) (charabancref08_Next_28.l0 K p0 k (IntKind.wrap .i64 (t15 + 1)) (rdD p0 t15) t18) none)) (some (t15, t16, t18))) (fun j33 => cond (t23 == 221) (j33 true) ((charabancref08_at_31.f K p0 t15).bind fun t29 => j33 (t29 == 253)))
set_option maxRecDepth 100000 in
theorem charabancref08_Next_28.l0_ok (K : Nat) (M0 : Nat → Prop) (w0 : World) (pA0 : Option Addr) (pc0 : Nat) (p0 : List Int) (b14 : Nat) (b17 : Nat) (R : Ending → World → Prop) (x : Int × Int × Int) (hk0 : ∀ (t53 : Int) (t54 : Int) (t55 : Int) (w1 : World), x = (t53, t54, t55) → Holds M0 w0 w1 [sl (Rp.int .u8) (.slice pA0 p0.length pc0) p0, box b14 24 [.int .i64 0, .int .u8 0, .int .u8 0, .int .u16 0, .int .i64 0, .int .i64 0], box b17 24 [.int .i64 0, .int .u8 0, .int .u8 0, .int .u16 0, .int .i64 0, .int .i64 t55]] → RunsI F28 [.c 27] [(0, .slice pA0 p0.length pc0), (2, .pointer (some ⟨b14, 0, none⟩)), (4, .int .i64 t53), (5, .int .u8 t54), (6, .pointer (some ⟨b17, 0, none⟩))] w1 R) :
    ∀ (k : Nat) (t15 : Int) (t16 : Int) (t18 : Int) (w : World), charabancref08_Next_28.l0 K p0 k t15 t16 t18 = some x → Holds M0 w0 w [sl (Rp.int .u8) (.slice pA0 p0.length pc0) p0, box b14 24 [.int .i64 0, .int .u8 0, .int .u8 0, .int .u16 0, .int .i64 0, .int .i64 0], box b17 24 [.int .i64 0, .int .u8 0, .int .u8 0, .int .u16 0, .int .i64 0, .int .i64 t18]] → RunsI F28 [.c 11, .lp 11, .blk 0, .c 27] [(0, .slice pA0 p0.length pc0), (2, .pointer (some ⟨b14, 0, none⟩)), (4, .int .i64 t15), (5, .int .u8 t16), (6, .pointer (some ⟨b17, 0, none⟩))] w R := by
  intro k
  induction k with
  | zero => intro t15 t16 t18 w h hH; exact absurd h (by simp [charabancref08_Next_28.l0])
  | succ k ih =>
    intro t15 t16 t18 w h hH
    rw [charabancref08_Next_28.l0.eq_2] at h
    refine RunsI.go 1 [.c 12, .c 17, .lp 11, .blk 0, .c 27] (by kernel_rfl) ?_
    refine RunsI.go 1 [.c 13, .c 14, .c 17, .lp 11, .blk 0, .c 27] (by kernel_rfl) ?_
    refine RunsI.region (by kernel_rfl) ?_
    refine RegI.pure 2 [0, 2, 4, 5, 6, 10, 11] [(0, .slice pA0 p0.length pc0), (2, .pointer (some ⟨b14, 0, none⟩)), (4, .int .i64 t15), (5, .int .u8 t16), (6, .pointer (some ⟨b17, 0, none⟩)), (10, .slice pA0 p0.length pc0), (11, .int .i64 t15)] (by kernel_rfl) ?_
    obtain ⟨t23, hg22, h⟩ := of_bind h
    refine RegI.op (by kernel_rfl) (OpE.call 12 (by kernel_rfl) 31 #[.slice pA0 p0.length pc0, .int .i64 t15] (by kernel_rfl) ((charabancref08_at_31_ok K _ w  pA0 pc0 p0 t15 hH.old' (hH.get 0 rfl) hg22).mono ?_))
    rintro _ w19 ⟨rfl, hb20⟩
    refine ⟨_, rfl, ?_⟩
    have h21 := hH.call hb20
    refine RegI.pure 2 [0, 2, 4, 5, 6, 14] [(0, .slice pA0 p0.length pc0), (2, .pointer (some ⟨b14, 0, none⟩)), (4, .int .i64 t15), (5, .int .u8 t16), (6, .pointer (some ⟨b17, 0, none⟩)), (14, .bool (t23 == 221))] (by kernel_rfl) ?_
    obtain ⟨j33, hJ34, h⟩ := of_let h
    have hj35 : ∀ (t30 : Bool) (w32 : World), j33 t30 = some x → Holds M0 w0 w32 [sl (Rp.int .u8) (.slice pA0 p0.length pc0) p0, box b14 24 [.int .i64 0, .int .u8 0, .int .u8 0, .int .u16 0, .int .i64 0, .int .i64 0], box b17 24 [.int .i64 0, .int .u8 0, .int .u8 0, .int .u16 0, .int .i64 0, .int .i64 t18]] → RegI F28 13 [.c 14, .c 17, .lp 11, .blk 0, .c 27] 10 [(0, .slice pA0 p0.length pc0), (2, .pointer (some ⟨b14, 0, none⟩)), (4, .int .i64 t15), (5, .int .u8 t16), (6, .pointer (some ⟨b17, 0, none⟩)), (19, .bool t30)] w32 R := by
      intro t30 w32 h h31
      rw [hJ34] at h
      clear hJ34
      dsimp only at h
      refine RegI.done (by kernel_rfl) ?_
      rcases of_cond h with ⟨hc36, h⟩ | ⟨hc36, h⟩
      · skip
        refine RunsI.fix 19 true hc36 (by kernel_rfl) (by kernel_rfl) ?_
        refine RunsI.cond true 15 (by kernel_rfl) ?_
        refine RunsI.go 1 [.c 17, .lp 11, .blk 0, .c 27] (by kernel_rfl) ?_
        refine RunsI.go 3 [.c 20, .c 21, .c 24, .blk 1, .lp 11, .blk 0, .c 27] (by kernel_rfl) ?_
        refine RunsI.region (by kernel_rfl) ?_
        refine RegI.pure 2 [0, 2, 4, 6, 21] [(0, .slice pA0 p0.length pc0), (2, .pointer (some ⟨b14, 0, none⟩)), (4, .int .i64 t15), (6, .pointer (some ⟨b17, 0, none⟩)), (21, .bool (decide (t15 > 0)))] (by kernel_rfl) ?_
        refine RegI.done (by kernel_rfl) ?_
        rcases of_cond h with ⟨hc37, h⟩ | ⟨hc37, h⟩
        · skip
          refine RunsI.fix 21 true hc37 (by kernel_rfl) (by kernel_rfl) ?_
          refine RunsI.cond true 22 (by kernel_rfl) ?_
          refine RunsI.region (by kernel_rfl) ?_
          refine RegI.pure 1 [0, 2, 4, 6, 22] [(0, .slice pA0 p0.length pc0), (2, .pointer (some ⟨b14, 0, none⟩)), (4, .int .i64 t15), (6, .pointer (some ⟨b17, 0, none⟩)), (22, .pointer (some ⟨b17, 5, none⟩))] (by kernel_rfl) ?_
          refine RegI.op (by kernel_rfl) (OpE.loadBox 23 2 3 b17 5 (.int .i64 t18) h31 (by kernel_rfl) (by kernel_rfl) rfl (by kernel_rfl) ?_)
          refine RegI.pure 2 [0, 2, 4, 6, 24, 25] [(0, .slice pA0 p0.length pc0), (2, .pointer (some ⟨b14, 0, none⟩)), (4, .int .i64 t15), (6, .pointer (some ⟨b17, 0, none⟩)), (24, .int .i64 (IntKind.wrap .i64 (t18 + 1))), (25, .pointer (some ⟨b17, 5, none⟩))] (by kernel_rfl) ?_
          refine RegI.op (by kernel_rfl) (OpE.storeBox 2 3 b17 5 (.int .i64 (IntKind.wrap .i64 (t18 + 1))) [.int .i64 0, .int .u8 0, .int .u8 0, .int .u16 0, .int .i64 0, .int .i64 (IntKind.wrap .i64 (t18 + 1))] h31 (by kernel_rfl) (by kernel_rfl) rfl (by kernel_rfl) (by kernel_rfl) (by kernel_rfl) ?_)
          intro w38 h39 hk40
          refine RegI.done (by kernel_rfl) ?_
          refine RunsI.go 1 [.c 25, .c 26, .blk 1, .lp 11, .blk 0, .c 27] (by kernel_rfl) ?_
          refine RunsI.region (by kernel_rfl) ?_
          refine RegI.pure 2 [0, 2, 4, 6, 26, 27] [(0, .slice pA0 p0.length pc0), (2, .pointer (some ⟨b14, 0, none⟩)), (4, .int .i64 t15), (6, .pointer (some ⟨b17, 0, none⟩)), (26, .slice pA0 p0.length pc0), (27, .int .i64 t15)] (by kernel_rfl) ?_
          obtain ⟨hc41, h⟩ := of_cond0 h
          refine RegI.op (by kernel_rfl) (OpE.idxSl 28 0 29 t15 h39 (by kernel_rfl) rfl (by kernel_rfl) (by kernel_rfl) hc41 ?_)
          intro b42 o43 cs44 hk45 h46
          obtain rfl := hk45
          refine RegI.op (by kernel_rfl) (OpE.loadCel 29 3 5 b42 o43 0 (.int .u8 (rdD p0 t15)) h46 (by kernel_rfl) (by kernel_rfl) rfl (by kernel_rfl) ?_)
          refine RegI.pure 1 [0, 2, 4, 5, 6] [(0, .slice pA0 p0.length pc0), (2, .pointer (some ⟨b14, 0, none⟩)), (4, .int .i64 t15), (5, .int .u8 (rdD p0 t15)), (6, .pointer (some ⟨b17, 0, none⟩))] (by kernel_rfl) ?_
          refine RegI.done (by kernel_rfl) ?_
          refine RunsI.region (by kernel_rfl) ?_
          refine RegI.pure 3 [0, 2, 4, 5, 6] [(0, .slice pA0 p0.length pc0), (2, .pointer (some ⟨b14, 0, none⟩)), (4, .int .i64 (IntKind.wrap .i64 (t15 + 1))), (5, .int .u8 (rdD p0 t15)), (6, .pointer (some ⟨b17, 0, none⟩))] (by kernel_rfl) ?_
          refine RegI.done (by kernel_rfl) ?_
          refine RunsI.go 2 [.c 11, .lp 11, .blk 0, .c 27] (by kernel_rfl) ?_
          refine RunsI.only [0, 2, 4, 5, 6] [(0, .slice pA0 p0.length pc0), (2, .pointer (some ⟨b14, 0, none⟩)), (4, .int .i64 (IntKind.wrap .i64 (t15 + 1))), (5, .int .u8 (rdD p0 t15)), (6, .pointer (some ⟨b17, 0, none⟩))] (by kernel_rfl) (by kernel_rfl) ?_
          exact ih (IntKind.wrap .i64 (t15 + 1)) (rdD p0 t15) (IntKind.wrap .i64 (t18 + 1)) w38 h (h46.pick [0, 1, 2] (by decide))
        · skip
          refine RunsI.fix 21 false hc37 (by kernel_rfl) (by kernel_rfl) ?_
          refine RunsI.cond false 23 (by kernel_rfl) ?_
          refine RunsI.go 1 [.c 24, .blk 1, .lp 11, .blk 0, .c 27] (by kernel_rfl) ?_
          refine RunsI.go 1 [.c 25, .c 26, .blk 1, .lp 11, .blk 0, .c 27] (by kernel_rfl) ?_
          refine RunsI.region (by kernel_rfl) ?_
          refine RegI.pure 2 [0, 2, 4, 6, 26, 27] [(0, .slice pA0 p0.length pc0), (2, .pointer (some ⟨b14, 0, none⟩)), (4, .int .i64 t15), (6, .pointer (some ⟨b17, 0, none⟩)), (26, .slice pA0 p0.length pc0), (27, .int .i64 t15)] (by kernel_rfl) ?_
          obtain ⟨hc47, h⟩ := of_cond0 h
          refine RegI.op (by kernel_rfl) (OpE.idxSl 28 0 29 t15 h31 (by kernel_rfl) rfl (by kernel_rfl) (by kernel_rfl) hc47 ?_)
          intro b48 o49 cs50 hk51 h52
          obtain rfl := hk51
          refine RegI.op (by kernel_rfl) (OpE.loadCel 29 3 5 b48 o49 0 (.int .u8 (rdD p0 t15)) h52 (by kernel_rfl) (by kernel_rfl) rfl (by kernel_rfl) ?_)
          refine RegI.pure 1 [0, 2, 4, 5, 6] [(0, .slice pA0 p0.length pc0), (2, .pointer (some ⟨b14, 0, none⟩)), (4, .int .i64 t15), (5, .int .u8 (rdD p0 t15)), (6, .pointer (some ⟨b17, 0, none⟩))] (by kernel_rfl) ?_
          refine RegI.done (by kernel_rfl) ?_
          refine RunsI.region (by kernel_rfl) ?_
          refine RegI.pure 3 [0, 2, 4, 5, 6] [(0, .slice pA0 p0.length pc0), (2, .pointer (some ⟨b14, 0, none⟩)), (4, .int .i64 (IntKind.wrap .i64 (t15 + 1))), (5, .int .u8 (rdD p0 t15)), (6, .pointer (some ⟨b17, 0, none⟩))] (by kernel_rfl) ?_
          refine RegI.done (by kernel_rfl) ?_
          refine RunsI.go 2 [.c 11, .lp 11, .blk 0, .c 27] (by kernel_rfl) ?_
          refine RunsI.only [0, 2, 4, 5, 6] [(0, .slice pA0 p0.length pc0), (2, .pointer (some ⟨b14, 0, none⟩)), (4, .int .i64 (IntKind.wrap .i64 (t15 + 1))), (5, .int .u8 (rdD p0 t15)), (6, .pointer (some ⟨b17, 0, none⟩))] (by kernel_rfl) (by kernel_rfl) ?_
          exact ih (IntKind.wrap .i64 (t15 + 1)) (rdD p0 t15) t18 w32 h (h52.pick [0, 1, 2] (by decide))
      · skip
        refine RunsI.fix 19 false hc36 (by kernel_rfl) (by kernel_rfl) ?_
        refine RunsI.cond false 16 (by kernel_rfl) ?_
        refine RunsI.go 1 [.c 27] (by kernel_rfl) ?_
        refine RunsI.only [0, 2, 4, 5, 6] [(0, .slice pA0 p0.length pc0), (2, .pointer (some ⟨b14, 0, none⟩)), (4, .int .i64 t15), (5, .int .u8 t16), (6, .pointer (some ⟨b17, 0, none⟩))] (by kernel_rfl) (by kernel_rfl) ?_
        exact hk0 t15 t16 t18 w32 (Option.some.inj h).symm (h31.pick [0, 1, 2] (by decide))
    clear hJ34
    rcases of_cond h with ⟨hc24, h⟩ | ⟨hc24, h⟩
    · skip
      refine RegI.fix 14 true hc24 (by kernel_rfl) (by kernel_rfl) ?_
      refine RegI.pure 5 [0, 2, 4, 5, 6, 15, 16, 17, 18, 19] [(0, .slice pA0 p0.length pc0), (2, .pointer (some ⟨b14, 0, none⟩)), (4, .int .i64 t15), (5, .int .u8 t16), (6, .pointer (some ⟨b17, 0, none⟩)), (15, undef), (16, undef), (17, undef), (18, undef), (19, .bool true)] (by kernel_rfl) ?_
      refine RegI.only [0, 2, 4, 5, 6, 19] [(0, .slice pA0 p0.length pc0), (2, .pointer (some ⟨b14, 0, none⟩)), (4, .int .i64 t15), (5, .int .u8 t16), (6, .pointer (some ⟨b17, 0, none⟩)), (19, .bool true)] (by kernel_rfl) (by kernel_rfl) ?_
      exact hj35 true w19 h (h21.pick [0, 1, 2] (by decide))
    · skip
      refine RegI.fix 14 false hc24 (by kernel_rfl) (by kernel_rfl) ?_
      refine RegI.pure 2 [0, 2, 4, 5, 6, 14, 15, 16] [(0, .slice pA0 p0.length pc0), (2, .pointer (some ⟨b14, 0, none⟩)), (4, .int .i64 t15), (5, .int .u8 t16), (6, .pointer (some ⟨b17, 0, none⟩)), (14, .bool false), (15, .slice pA0 p0.length pc0), (16, .int .i64 t15)] (by kernel_rfl) ?_
      obtain ⟨t29, hg28, h⟩ := of_bind h
      refine RegI.op (by kernel_rfl) (OpE.call 17 (by kernel_rfl) 31 #[.slice pA0 p0.length pc0, .int .i64 t15] (by kernel_rfl) ((charabancref08_at_31_ok K _ w19  pA0 pc0 p0 t15 h21.old' (h21.get 0 rfl) hg28).mono ?_))
      rintro _ w25 ⟨rfl, hb26⟩
      refine ⟨_, rfl, ?_⟩
      have h27 := h21.call hb26
      refine RegI.pure 2 [0, 2, 4, 5, 6, 15, 16, 17, 18, 19] [(0, .slice pA0 p0.length pc0), (2, .pointer (some ⟨b14, 0, none⟩)), (4, .int .i64 t15), (5, .int .u8 t16), (6, .pointer (some ⟨b17, 0, none⟩)), (15, .slice pA0 p0.length pc0), (16, .int .i64 t15), (17, .int .u8 t29), (18, .bool (t29 == 253)), (19, .bool (t29 == 253))] (by kernel_rfl) ?_
      refine RegI.only [0, 2, 4, 5, 6, 19] [(0, .slice pA0 p0.length pc0), (2, .pointer (some ⟨b14, 0, none⟩)), (4, .int .i64 t15), (5, .int .u8 t16), (6, .pointer (some ⟨b17, 0, none⟩)), (19, .bool (t29 == 253))] (by kernel_rfl) (by kernel_rfl) ?_
      exact hj35 (t29 == 253) w25 h (h27.pick [0, 1, 2] (by decide))
def charabancref08_Next_28.f (K : Nat) (p0 : List Int) : Option (Int × Int × Int × Int × Int × Int × Bool) := (charabancref08_Next_28.l0 K p0 K 0 0 0).bind (fun yx56 => (charabancref08_at_31.f K p0 yx56.1).bind fun t67 => (charabancref08_plane_32.f K yx56.2.1 t67).bind fun t72 => Let (fun (t77 : Bool) => Let (fun (t87 : Int) => Let (fun (t94 : Bool) => Let (fun (yj160 : Int × Int × Int) => (charabancref08_Size_33.f K t72 yj160.2.1).bind fun t167 => Let (fun (t177 : Int) => Let (fun (t201 : Int) => cond (decide ((IntKind.wrap .i64 (yj160.1 + t167)) > (p0.length : Int))) (some (0, 0, 0, 0, 0, 0, false)) (some (t72, yj160.2.1, yj160.2.2, t201, (IntKind.wrap .i64 (yj160.1 + t167)), t87, true))) (fun j204 => cond (decide (t167 > 1)) ((charabancref08_at_31.f K p0 (IntKind.wrap .i64 (yj160.1 + 1))).bind fun t189 => j204 (IntKind.wrap .u16 (t177 + (IntKind.wrap .u16 (256 * (IntKind.wrap .u16 t189)))))) (j204 t177))) (fun j180 => cond (decide (t167 > 0)) ((charabancref08_at_31.f K p0 yj160.1).bind fun t173 => j180 (IntKind.wrap .u16 t173)) (j180 0))) (fun j160 => cond t94 ((charabancref08_at_31.f K p0 (IntKind.wrap .i64 (yx56.1 + 1))).bind fun t105 => (charabancref08_at_31.f K p0 (IntKind.wrap .i64 (yx56.1 + 2))).bind fun t113 => j160 ((IntKind.wrap .i64 (yx56.1 + 3)), t113, t105)) (Let (fun (t118 : Bool) => cond t118 ((charabancref08_at_31.f K p0 (IntKind.wrap .i64 (yx56.1 + 1))).bind fun t129 => j160 ((IntKind.wrap .i64 (yx56.1 + 2)), t129, 0)) ((charabancref08_at_31.f K p0 yx56.1).bind fun t137 => (charabancref08_Near_25.f K t72 t137).bind fun t145 => cond t145 ((charabancref08_at_31.f K p0 (IntKind.wrap .i64 (yx56.1 + 1))).bind fun t151 => j160 ((IntKind.wrap .i64 ((IntKind.wrap .i64 (yx56.1 + 1)) + 1)), t137, t151)) (j160 ((IntKind.wrap .i64 (yx56.1 + 1)), t137, 0)))) (fun j121 => cond (t72 == 1) (j121 true) (j121 (t72 == 2)))))) (fun j97 => cond (t72 == 5) (j97 true) (j97 (t72 == 6)))) (fun j90 => cond t77 (j90 (IntKind.wrap .i64 (yx56.2.2 + 1))) (j90 yx56.2.2))) (fun j80 => cond (t72 == 2) (j80 (decide (yx56.1 > 0))) (j80 false)))
set_option maxRecDepth 100000 in
theorem charabancref08_Next_28_ok (K : Nat) (M0 : Nat → Prop) (w0 : World) (pA0 : Option Addr) (pc0 : Nat) (p0 : List Int) (ho : ∀ b, M0 b → b < w0.heap.size) (hs0 : Sl (Rp.int .u8) w0 M0 (.slice pA0 p0.length pc0) p0) {r : Int × Int × Int × Int × Int × Int × Bool} (h : charabancref08_Next_28.f K p0 = some r) :
    Calls Tryd.prog 28 #[.slice pA0 p0.length pc0] w0 (charabancref08_Next_28.post M0 w0 r) := by
  unfold charabancref08_Next_28.f at h
  have h0 : Holds M0 w0 w0 [] := Holds.start ho
  have h00 := h0.addSl (Rp.int .u8) (.slice pA0 p0.length pc0) p0 (hs0.mono (fun _ _ hm => hm.elim id (fun hm => absurd hm (by simp [mines, sl]))))
  have h0 : Holds M0 w0 w0 [sl (Rp.int .u8) (.slice pA0 p0.length pc0) p0] := h00
  refine calls_of F28 rfl [.slice pA0 p0.length pc0] (by kernel_rfl) ?_
  refine RunsI.go 1 [.c 1, .c 2] (by kernel_rfl) ?_
  refine RunsI.region (by kernel_rfl) ?_
  refine RegI.op (by kernel_rfl) (OpE.box 2 24 [.int .i64 0, .int .u8 0, .int .u8 0, .int .u16 0, .int .i64 0, .int .i64 0] h0 (by kernel_rfl) (by kernel_rfl) ?_)
  intro w1 b2 h3 hb4 hn5
  refine RegI.pure 1 [0, 2] [(0, .slice pA0 p0.length pc0), (2, .pointer (some ⟨b2, 0, none⟩))] (by kernel_rfl) ?_
  refine RegI.done (by kernel_rfl) ?_
  refine RunsI.go 1 [.c 3, .c 4] (by kernel_rfl) ?_
  refine RunsI.region (by kernel_rfl) ?_
  refine RegI.pure 1 [0, 2, 4] [(0, .slice pA0 p0.length pc0), (2, .pointer (some ⟨b2, 0, none⟩)), (4, .int .i64 0)] (by kernel_rfl) ?_
  refine RegI.done (by kernel_rfl) ?_
  refine RunsI.go 1 [.c 5, .c 6] (by kernel_rfl) ?_
  refine RunsI.region (by kernel_rfl) ?_
  refine RegI.pure 1 [0, 2, 4, 5] [(0, .slice pA0 p0.length pc0), (2, .pointer (some ⟨b2, 0, none⟩)), (4, .int .i64 0), (5, .int .u8 0)] (by kernel_rfl) ?_
  refine RegI.done (by kernel_rfl) ?_
  refine RunsI.go 1 [.c 7, .c 8] (by kernel_rfl) ?_
  refine RunsI.region (by kernel_rfl) ?_
  refine RegI.pure 1 [0, 2, 4, 5, 9] [(0, .slice pA0 p0.length pc0), (2, .pointer (some ⟨b2, 0, none⟩)), (4, .int .i64 0), (5, .int .u8 0), (9, .agg #[.int .i64 0, .int .u8 0, .int .u8 0, .int .u16 0, .int .i64 0, .int .i64 0])] (by kernel_rfl) ?_
  refine RegI.op (by kernel_rfl) (OpE.box 6 24 [.int .i64 0, .int .u8 0, .int .u8 0, .int .u16 0, .int .i64 0, .int .i64 0] h3 (by kernel_rfl) (by kernel_rfl) ?_)
  intro w6 b7 h8 hb9 hn10
  refine RegI.op (by kernel_rfl) (OpE.storeBox 2 24 b7 0 (.agg #[.int .i64 0, .int .u8 0, .int .u8 0, .int .u16 0, .int .i64 0, .int .i64 0]) [.int .i64 0, .int .u8 0, .int .u8 0, .int .u16 0, .int .i64 0, .int .i64 0] h8 (by kernel_rfl) (by kernel_rfl) rfl (by kernel_rfl) (by kernel_rfl) (by kernel_rfl) ?_)
  intro w11 h12 hk13
  refine RegI.done (by kernel_rfl) ?_
  refine RunsI.go 3 [.c 11, .lp 11, .blk 0, .c 27] (by kernel_rfl) ?_
  obtain ⟨x56, hx57, h⟩ := of_bind h
  refine RunsI.only [0, 2, 4, 5, 6] [(0, .slice pA0 p0.length pc0), (2, .pointer (some ⟨b2, 0, none⟩)), (4, .int .i64 0), (5, .int .u8 0), (6, .pointer (some ⟨b7, 0, none⟩))] (by kernel_rfl) (by kernel_rfl) ?_
  refine charabancref08_Next_28.l0_ok K M0 w0 pA0 pc0 p0 b2 b7 _ x56 ?_ K 0 0 0 w11 hx57 (h12.pick [0, 1, 2] (by decide))
  · intro t58 t59 t60 w62 hq217 h61
    (try rw [hq217] at h)
    dsimp only at h
    refine RunsI.go 1 [.c 28, .c 29] (by kernel_rfl) ?_
    refine RunsI.region (by kernel_rfl) ?_
    refine RegI.pure 3 [0, 2, 4, 6, 32, 33, 34] [(0, .slice pA0 p0.length pc0), (2, .pointer (some ⟨b2, 0, none⟩)), (4, .int .i64 t58), (6, .pointer (some ⟨b7, 0, none⟩)), (32, .int .u8 t59), (33, .slice pA0 p0.length pc0), (34, .int .i64 t58)] (by kernel_rfl) ?_
    obtain ⟨t67, hg66, h⟩ := of_bind h
    refine RegI.op (by kernel_rfl) (OpE.call 35 (by kernel_rfl) 31 #[.slice pA0 p0.length pc0, .int .i64 t58] (by kernel_rfl) ((charabancref08_at_31_ok K _ w62  pA0 pc0 p0 t58 h61.old' (h61.get 0 rfl) hg66).mono ?_))
    rintro _ w63 ⟨rfl, hb64⟩
    refine ⟨_, rfl, ?_⟩
    have h65 := h61.call hb64
    obtain ⟨t72, hg71, h⟩ := of_bind h
    refine RegI.op (by kernel_rfl) (OpE.call 36 (by kernel_rfl) 32 #[.int .u8 t59, .int .u8 t67] (by kernel_rfl) ((charabancref08_plane_32_ok K _ w63  t59 t67 h65.old' hg71).mono ?_))
    rintro _ w68 ⟨rfl, hb69⟩
    refine ⟨_, rfl, ?_⟩
    have h70 := h65.call hb69
    refine RegI.pure 1 [0, 2, 4, 6, 36, 37] [(0, .slice pA0 p0.length pc0), (2, .pointer (some ⟨b2, 0, none⟩)), (4, .int .i64 t58), (6, .pointer (some ⟨b7, 0, none⟩)), (36, .int .i64 t72), (37, .pointer (some ⟨b7, 0, none⟩))] (by kernel_rfl) ?_
    refine RegI.op (by kernel_rfl) (OpE.storeBox 2 3 b7 0 (.int .i64 t72) [.int .i64 t72, .int .u8 0, .int .u8 0, .int .u16 0, .int .i64 0, .int .i64 t60] h70 (by kernel_rfl) (by kernel_rfl) rfl (by kernel_rfl) (by kernel_rfl) (by kernel_rfl) ?_)
    intro w73 h74 hk75
    refine RegI.done (by kernel_rfl) ?_
    refine RunsI.go 2 [.c 31, .c 32, .c 35] (by kernel_rfl) ?_
    refine RunsI.region (by kernel_rfl) ?_
    refine RegI.pure 1 [0, 2, 4, 6, 38] [(0, .slice pA0 p0.length pc0), (2, .pointer (some ⟨b2, 0, none⟩)), (4, .int .i64 t58), (6, .pointer (some ⟨b7, 0, none⟩)), (38, .pointer (some ⟨b7, 0, none⟩))] (by kernel_rfl) ?_
    refine RegI.op (by kernel_rfl) (OpE.loadBox 39 2 3 b7 0 (.int .i64 t72) h74 (by kernel_rfl) (by kernel_rfl) rfl (by kernel_rfl) ?_)
    refine RegI.pure 2 [0, 2, 4, 6, 41] [(0, .slice pA0 p0.length pc0), (2, .pointer (some ⟨b2, 0, none⟩)), (4, .int .i64 t58), (6, .pointer (some ⟨b7, 0, none⟩)), (41, .bool (t72 == 2))] (by kernel_rfl) ?_
    obtain ⟨j80, hJ81, h⟩ := of_let h
    have hj82 : ∀ (t77 : Bool) (w79 : World), j80 t77 = some r → Holds M0 w0 w79 [sl (Rp.int .u8) (.slice pA0 p0.length pc0) p0, box b2 24 [.int .i64 0, .int .u8 0, .int .u8 0, .int .u16 0, .int .i64 0, .int .i64 0], box b7 24 [.int .i64 t72, .int .u8 0, .int .u8 0, .int .u16 0, .int .i64 0, .int .i64 t60]] → RegI F28 31 [.c 32, .c 35] 7 [(0, .slice pA0 p0.length pc0), (2, .pointer (some ⟨b2, 0, none⟩)), (4, .int .i64 t58), (6, .pointer (some ⟨b7, 0, none⟩)), (44, .bool t77)] w79 (charabancref08_Next_28.post M0 w0 r) := by
      intro t77 w79 h h78
      rw [hJ81] at h
      clear hJ81
      dsimp only at h
      refine RegI.done (by kernel_rfl) ?_
      obtain ⟨j90, hJ91, h⟩ := of_let h
      have hj92 : ∀ (t87 : Int) (w89 : World), j90 t87 = some r → Holds M0 w0 w89 [sl (Rp.int .u8) (.slice pA0 p0.length pc0) p0, box b2 24 [.int .i64 0, .int .u8 0, .int .u8 0, .int .u16 0, .int .i64 0, .int .i64 0], box b7 24 [.int .i64 t72, .int .u8 0, .int .u8 0, .int .u16 0, .int .i64 0, .int .i64 t87]] → RunsI F28 [.c 35] [(0, .slice pA0 p0.length pc0), (2, .pointer (some ⟨b2, 0, none⟩)), (4, .int .i64 t58), (6, .pointer (some ⟨b7, 0, none⟩))] w89 (charabancref08_Next_28.post M0 w0 r) := by
        intro t87 w89 h h88
        rw [hJ91] at h
        clear hJ91
        dsimp only at h
        refine RunsI.go 2 [.c 37, .c 38, .c 74] (by kernel_rfl) ?_
        refine RunsI.region (by kernel_rfl) ?_
        refine RegI.pure 1 [0, 2, 4, 6, 49] [(0, .slice pA0 p0.length pc0), (2, .pointer (some ⟨b2, 0, none⟩)), (4, .int .i64 t58), (6, .pointer (some ⟨b7, 0, none⟩)), (49, .pointer (some ⟨b7, 0, none⟩))] (by kernel_rfl) ?_
        refine RegI.op (by kernel_rfl) (OpE.loadBox 50 2 3 b7 0 (.int .i64 t72) h88 (by kernel_rfl) (by kernel_rfl) rfl (by kernel_rfl) ?_)
        refine RegI.done (by kernel_rfl) ?_
        refine RunsI.go 3 [.c 41, .c 42, .c 45, .blk 2, .c 74] (by kernel_rfl) ?_
        refine RunsI.region (by kernel_rfl) ?_
        refine RegI.pure 2 [0, 2, 4, 6, 50, 69] [(0, .slice pA0 p0.length pc0), (2, .pointer (some ⟨b2, 0, none⟩)), (4, .int .i64 t58), (6, .pointer (some ⟨b7, 0, none⟩)), (50, .int .i64 t72), (69, .bool (t72 == 5))] (by kernel_rfl) ?_
        refine RegI.done (by kernel_rfl) ?_
        obtain ⟨j97, hJ98, h⟩ := of_let h
        have hj99 : ∀ (t94 : Bool) (w96 : World), j97 t94 = some r → Holds M0 w0 w96 [sl (Rp.int .u8) (.slice pA0 p0.length pc0) p0, box b2 24 [.int .i64 0, .int .u8 0, .int .u8 0, .int .u16 0, .int .i64 0, .int .i64 0], box b7 24 [.int .i64 t72, .int .u8 0, .int .u8 0, .int .u16 0, .int .i64 0, .int .i64 t87]] → RunsI F28 [.c 45, .blk 2, .c 74] [(0, .slice pA0 p0.length pc0), (2, .pointer (some ⟨b2, 0, none⟩)), (4, .int .i64 t58), (6, .pointer (some ⟨b7, 0, none⟩)), (50, .int .i64 t72), (69, .bool t94)] w96 (charabancref08_Next_28.post M0 w0 r) := by
          intro t94 w96 h h95
          rw [hJ98] at h
          clear hJ98
          dsimp only at h
          obtain ⟨j160, hJ161, h⟩ := of_let h
          have hj162 : ∀ (t155 : Int) (t156 : Int) (t157 : Int) (w159 : World), j160 (t155, t156, t157) = some r → Holds M0 w0 w159 [sl (Rp.int .u8) (.slice pA0 p0.length pc0) p0, box b2 24 [.int .i64 0, .int .u8 0, .int .u8 0, .int .u16 0, .int .i64 0, .int .i64 0], box b7 24 [.int .i64 t72, .int .u8 t156, .int .u8 t157, .int .u16 0, .int .i64 0, .int .i64 t87]] → RunsI F28 [.blk 2, .c 74] [(0, .slice pA0 p0.length pc0), (2, .pointer (some ⟨b2, 0, none⟩)), (4, .int .i64 t155), (6, .pointer (some ⟨b7, 0, none⟩))] w159 (charabancref08_Next_28.post M0 w0 r) := by
            intro t155 t156 t157 w159 h h158
            rw [hJ161] at h
            clear hJ161
            dsimp only at h
            refine RunsI.go 2 [.c 75, .c 76] (by kernel_rfl) ?_
            refine RunsI.region (by kernel_rfl) ?_
            refine RegI.pure 1 [0, 2, 4, 6, 94] [(0, .slice pA0 p0.length pc0), (2, .pointer (some ⟨b2, 0, none⟩)), (4, .int .i64 t155), (6, .pointer (some ⟨b7, 0, none⟩)), (94, .pointer (some ⟨b7, 0, none⟩))] (by kernel_rfl) ?_
            refine RegI.op (by kernel_rfl) (OpE.loadBox 95 2 3 b7 0 (.int .i64 t72) h158 (by kernel_rfl) (by kernel_rfl) rfl (by kernel_rfl) ?_)
            refine RegI.pure 1 [0, 2, 4, 6, 95, 96] [(0, .slice pA0 p0.length pc0), (2, .pointer (some ⟨b2, 0, none⟩)), (4, .int .i64 t155), (6, .pointer (some ⟨b7, 0, none⟩)), (95, .int .i64 t72), (96, .pointer (some ⟨b7, 1, none⟩))] (by kernel_rfl) ?_
            refine RegI.op (by kernel_rfl) (OpE.loadBox 97 2 5 b7 1 (.int .u8 t156) h158 (by kernel_rfl) (by kernel_rfl) rfl (by kernel_rfl) ?_)
            obtain ⟨t167, hg166, h⟩ := of_bind h
            refine RegI.op (by kernel_rfl) (OpE.call 98 (by kernel_rfl) 33 #[.int .i64 t72, .int .u8 t156] (by kernel_rfl) ((charabancref08_Size_33_ok K _ w159  t72 t156 h158.old' hg166).mono ?_))
            rintro _ w163 ⟨rfl, hb164⟩
            refine ⟨_, rfl, ?_⟩
            have h165 := h158.call hb164
            refine RegI.pure 1 [0, 2, 4, 6, 8] [(0, .slice pA0 p0.length pc0), (2, .pointer (some ⟨b2, 0, none⟩)), (4, .int .i64 t155), (6, .pointer (some ⟨b7, 0, none⟩)), (8, .int .i64 t167)] (by kernel_rfl) ?_
            refine RegI.done (by kernel_rfl) ?_
            refine RunsI.go 2 [.c 78, .c 79, .c 82] (by kernel_rfl) ?_
            refine RunsI.region (by kernel_rfl) ?_
            refine RegI.pure 2 [0, 2, 4, 6, 8, 100] [(0, .slice pA0 p0.length pc0), (2, .pointer (some ⟨b2, 0, none⟩)), (4, .int .i64 t155), (6, .pointer (some ⟨b7, 0, none⟩)), (8, .int .i64 t167), (100, .bool (decide (t167 > 0)))] (by kernel_rfl) ?_
            refine RegI.done (by kernel_rfl) ?_
            obtain ⟨j180, hJ181, h⟩ := of_let h
            have hj182 : ∀ (t177 : Int) (w179 : World), j180 t177 = some r → Holds M0 w0 w179 [sl (Rp.int .u8) (.slice pA0 p0.length pc0) p0, box b2 24 [.int .i64 0, .int .u8 0, .int .u8 0, .int .u16 0, .int .i64 0, .int .i64 0], box b7 24 [.int .i64 t72, .int .u8 t156, .int .u8 t157, .int .u16 t177, .int .i64 0, .int .i64 t87]] → RunsI F28 [.c 82] [(0, .slice pA0 p0.length pc0), (2, .pointer (some ⟨b2, 0, none⟩)), (4, .int .i64 t155), (6, .pointer (some ⟨b7, 0, none⟩)), (8, .int .i64 t167)] w179 (charabancref08_Next_28.post M0 w0 r) := by
              intro t177 w179 h h178
              rw [hJ181] at h
              clear hJ181
              dsimp only at h
              refine RunsI.go 2 [.c 84, .c 85, .c 88] (by kernel_rfl) ?_
              refine RunsI.region (by kernel_rfl) ?_
              refine RegI.pure 2 [0, 2, 4, 6, 8, 107] [(0, .slice pA0 p0.length pc0), (2, .pointer (some ⟨b2, 0, none⟩)), (4, .int .i64 t155), (6, .pointer (some ⟨b7, 0, none⟩)), (8, .int .i64 t167), (107, .bool (decide (t167 > 1)))] (by kernel_rfl) ?_
              refine RegI.done (by kernel_rfl) ?_
              obtain ⟨j204, hJ205, h⟩ := of_let h
              have hj206 : ∀ (t201 : Int) (w203 : World), j204 t201 = some r → Holds M0 w0 w203 [sl (Rp.int .u8) (.slice pA0 p0.length pc0) p0, box b2 24 [.int .i64 0, .int .u8 0, .int .u8 0, .int .u16 0, .int .i64 0, .int .i64 0], box b7 24 [.int .i64 t72, .int .u8 t156, .int .u8 t157, .int .u16 t201, .int .i64 0, .int .i64 t87]] → RunsI F28 [.c 88] [(0, .slice pA0 p0.length pc0), (2, .pointer (some ⟨b2, 0, none⟩)), (4, .int .i64 t155), (6, .pointer (some ⟨b7, 0, none⟩)), (8, .int .i64 t167)] w203 (charabancref08_Next_28.post M0 w0 r) := by
                intro t201 w203 h h202
                rw [hJ205] at h
                clear hJ205
                dsimp only at h
                refine RunsI.go 1 [.c 89, .c 90] (by kernel_rfl) ?_
                refine RunsI.region (by kernel_rfl) ?_
                refine RegI.pure 4 [0, 2, 6, 120, 121] [(0, .slice pA0 p0.length pc0), (2, .pointer (some ⟨b2, 0, none⟩)), (6, .pointer (some ⟨b7, 0, none⟩)), (120, .int .i64 (IntKind.wrap .i64 (t155 + t167))), (121, .pointer (some ⟨b7, 4, none⟩))] (by kernel_rfl) ?_
                refine RegI.op (by kernel_rfl) (OpE.storeBox 2 3 b7 4 (.int .i64 (IntKind.wrap .i64 (t155 + t167))) [.int .i64 t72, .int .u8 t156, .int .u8 t157, .int .u16 t201, .int .i64 (IntKind.wrap .i64 (t155 + t167)), .int .i64 t87] h202 (by kernel_rfl) (by kernel_rfl) rfl (by kernel_rfl) (by kernel_rfl) (by kernel_rfl) ?_)
                intro w207 h208 hk209
                refine RegI.done (by kernel_rfl) ?_
                refine RunsI.go 2 [.c 92, .c 93, .c 98] (by kernel_rfl) ?_
                refine RunsI.region (by kernel_rfl) ?_
                refine RegI.pure 1 [0, 2, 6, 122] [(0, .slice pA0 p0.length pc0), (2, .pointer (some ⟨b2, 0, none⟩)), (6, .pointer (some ⟨b7, 0, none⟩)), (122, .pointer (some ⟨b7, 4, none⟩))] (by kernel_rfl) ?_
                refine RegI.op (by kernel_rfl) (OpE.loadBox 123 2 3 b7 4 (.int .i64 (IntKind.wrap .i64 (t155 + t167))) h208 (by kernel_rfl) (by kernel_rfl) rfl (by kernel_rfl) ?_)
                refine RegI.pure 3 [2, 6, 126] [(2, .pointer (some ⟨b2, 0, none⟩)), (6, .pointer (some ⟨b7, 0, none⟩)), (126, .bool (decide ((IntKind.wrap .i64 (t155 + t167)) > (p0.length : Int))))] (by kernel_rfl) ?_
                refine RegI.done (by kernel_rfl) ?_
                rcases of_cond h with ⟨hc210, h⟩ | ⟨hc210, h⟩
                · skip
                  refine RunsI.fix 126 true hc210 (by kernel_rfl) (by kernel_rfl) ?_
                  refine RunsI.cond true 94 (by kernel_rfl) ?_
                  refine RunsI.go 1 [.c 95, .c 96, .c 98] (by kernel_rfl) ?_
                  refine RunsI.region (by kernel_rfl) ?_
                  refine RegI.pure 1 [2, 127] [(2, .pointer (some ⟨b2, 0, none⟩)), (127, .agg #[.int .i64 0, .int .u8 0, .int .u8 0, .int .u16 0, .int .i64 0, .int .i64 0])] (by kernel_rfl) ?_
                  refine RegI.op (by kernel_rfl) (OpE.storeBox 1 24 b2 0 (.agg #[.int .i64 0, .int .u8 0, .int .u8 0, .int .u16 0, .int .i64 0, .int .i64 0]) [.int .i64 0, .int .u8 0, .int .u8 0, .int .u16 0, .int .i64 0, .int .i64 0] h208 (by kernel_rfl) (by kernel_rfl) rfl (by kernel_rfl) (by kernel_rfl) (by kernel_rfl) ?_)
                  intro w211 h212 hk213
                  refine RegI.pure 1 [2, 3] [(2, .pointer (some ⟨b2, 0, none⟩)), (3, .bool false)] (by kernel_rfl) ?_
                  refine RegI.done (by kernel_rfl) ?_
                  refine RunsI.toRet (by kernel_rfl) ?_
                  refine RetI.valW [.cell 2 24, .tmp 3] [.agg #[.int .i64 0, .int .u8 0, .int .u8 0, .int .u16 0, .int .i64 0, .int .i64 0], .bool false] (.tuple #[.agg #[.int .i64 0, .int .u8 0, .int .u8 0, .int .u16 0, .int .i64 0, .int .i64 0], .bool false]) (by kernel_rfl) (ResAt.box 1 24 b2 0 h212 (by kernel_rfl) (by kernel_rfl) rfl (by kernel_rfl) (ResAt.tmp (by kernel_rfl) (by kernel_rfl) rfl)) (by kernel_rfl) ?_
                  obtain rfl := Option.some.inj h
                  exact ⟨rfl, h212.below⟩
                · skip
                  refine RunsI.fix 126 false hc210 (by kernel_rfl) (by kernel_rfl) ?_
                  refine RunsI.cond false 97 (by kernel_rfl) ?_
                  refine RunsI.go 1 [.c 98] (by kernel_rfl) ?_
                  refine RunsI.go 1 [.c 99, .c 100] (by kernel_rfl) ?_
                  refine RunsI.region (by kernel_rfl) ?_
                  refine RegI.op (by kernel_rfl) (OpE.loadBox 128 2 24 b7 0 (.agg #[.int .i64 t72, .int .u8 t156, .int .u8 t157, .int .u16 t201, .int .i64 (IntKind.wrap .i64 (t155 + t167)), .int .i64 t87]) h208 (by kernel_rfl) (by kernel_rfl) rfl (by kernel_rfl) ?_)
                  refine RegI.op (by kernel_rfl) (OpE.storeBox 1 24 b2 0 (.agg #[.int .i64 t72, .int .u8 t156, .int .u8 t157, .int .u16 t201, .int .i64 (IntKind.wrap .i64 (t155 + t167)), .int .i64 t87]) [.int .i64 t72, .int .u8 t156, .int .u8 t157, .int .u16 t201, .int .i64 (IntKind.wrap .i64 (t155 + t167)), .int .i64 t87] h208 (by kernel_rfl) (by kernel_rfl) rfl (by kernel_rfl) (by kernel_rfl) (by kernel_rfl) ?_)
                  intro w214 h215 hk216
                  refine RegI.pure 1 [2, 3] [(2, .pointer (some ⟨b2, 0, none⟩)), (3, .bool true)] (by kernel_rfl) ?_
                  refine RegI.done (by kernel_rfl) ?_
                  refine RunsI.toRet (by kernel_rfl) ?_
                  refine RetI.valW [.cell 2 24, .tmp 3] [.agg #[.int .i64 t72, .int .u8 t156, .int .u8 t157, .int .u16 t201, .int .i64 (IntKind.wrap .i64 (t155 + t167)), .int .i64 t87], .bool true] (.tuple #[.agg #[.int .i64 t72, .int .u8 t156, .int .u8 t157, .int .u16 t201, .int .i64 (IntKind.wrap .i64 (t155 + t167)), .int .i64 t87], .bool true]) (by kernel_rfl) (ResAt.box 1 24 b2 0 h215 (by kernel_rfl) (by kernel_rfl) rfl (by kernel_rfl) (ResAt.tmp (by kernel_rfl) (by kernel_rfl) rfl)) (by kernel_rfl) ?_
                  obtain rfl := Option.some.inj h
                  exact ⟨rfl, h215.below⟩
              clear hJ205
              rcases of_cond h with ⟨hc183, h⟩ | ⟨hc183, h⟩
              · skip
                refine RunsI.fix 107 true hc183 (by kernel_rfl) (by kernel_rfl) ?_
                refine RunsI.cond true 86 (by kernel_rfl) ?_
                refine RunsI.any 11 (by kernel_rfl) (by kernel_rfl) (by kernel_rfl) (Kp ([] : List Nat) (World.drew w179)) ?_
                have h185 := h178.drew
                generalize World.drew w179 = w184 at h185 ⊢
                have hS186 := Kp.refl ([] : List Nat) w184
                refine AnyE.pure 0 108 (.pointer (some ⟨b7, 3, none⟩)) (by kernel_rfl) hS186 (fun _ => by kernel_rfl) ?_
                refine AnyE.loadBox 1 109 2 22 b7 3 (.int .u16 t177) [] h185 rfl (by kernel_rfl) hS186 rfl rfl (by kernel_rfl) (by kernel_rfl) ?_
                refine AnyE.pure 2 110 (.slice pA0 p0.length pc0) (by kernel_rfl) hS186 (fun _ => by kernel_rfl) ?_
                refine AnyE.pure 3 111 (.int .i64 t155) (by kernel_rfl) hS186 (fun _ => by kernel_rfl) ?_
                refine AnyE.pure 4 112 (.int .i64 (IntKind.wrap .i64 (t155 + 1))) (by kernel_rfl) hS186 (fun _ => by kernel_rfl) ?_
                obtain ⟨t189, hg188, h⟩ := of_bind h
                refine AnyE.call 5 113 (.int .u8 t189) 31 #[.slice pA0 p0.length pc0, .int .i64 (IntKind.wrap .i64 (t155 + 1))] (by kernel_rfl) hS186 (fun _ => by kernel_rfl) (fun w hk => charabancref08_at_31_ok K (fun _ => False) w pA0 pc0 p0 (IntKind.wrap .i64 (t155 + 1)) (fun _ hf => hf.elim) (Sl.mono (h185.atI [] rfl hk 0 rfl rfl) (fun _ _ hf => hf.elim)) hg188) ?_
                refine AnyE.pure 6 114 (.int .u16 (IntKind.wrap .u16 t189)) (by kernel_rfl) hS186 (fun _ => by kernel_rfl) ?_
                refine AnyE.pure 7 115 (.int .u16 (IntKind.wrap .u16 (256 * (IntKind.wrap .u16 t189)))) (by kernel_rfl) hS186 (fun _ => by kernel_rfl) ?_
                refine AnyE.pure 8 116 (.int .u16 (IntKind.wrap .u16 (t177 + (IntKind.wrap .u16 (256 * (IntKind.wrap .u16 t189)))))) (by kernel_rfl) hS186 (fun _ => by kernel_rfl) ?_
                refine AnyE.pure 9 117 (.pointer (some ⟨b7, 3, none⟩)) (by kernel_rfl) hS186 (fun _ => by kernel_rfl) ?_
                refine AnyE.last 10 (by kernel_rfl) (by kernel_rfl) (fun w190 hu191 => ?_)
                have h192 := h185.call hu191
                have hS193 := hS186.up hu191
                refine OpE.storeBox 2 22 b7 3 (.int .u16 (IntKind.wrap .u16 (t177 + (IntKind.wrap .u16 (256 * (IntKind.wrap .u16 t189)))))) [.int .i64 t72, .int .u8 t156, .int .u8 t157, .int .u16 (IntKind.wrap .u16 (t177 + (IntKind.wrap .u16 (256 * (IntKind.wrap .u16 t189))))), .int .i64 0, .int .i64 t87] h192 (by kernel_rfl) (by kernel_rfl) rfl (by kernel_rfl) (by kernel_rfl) (by kernel_rfl) ?_
                intro w194 h195 hk196
                refine AnyE.done (by kernel_rfl) (fun w198 hu199 => ?_)
                have h200 := h195.call hu199
                refine RunsI.only [0, 2, 4, 6, 8] [(0, .slice pA0 p0.length pc0), (2, .pointer (some ⟨b2, 0, none⟩)), (4, .int .i64 t155), (6, .pointer (some ⟨b7, 0, none⟩)), (8, .int .i64 t167)] (by kernel_rfl) (by kernel_rfl) ?_
                refine RunsI.only [0, 2, 4, 6, 8] [(0, .slice pA0 p0.length pc0), (2, .pointer (some ⟨b2, 0, none⟩)), (4, .int .i64 t155), (6, .pointer (some ⟨b7, 0, none⟩)), (8, .int .i64 t167)] (by kernel_rfl) (by kernel_rfl) ?_
                exact hj206 (IntKind.wrap .u16 (t177 + (IntKind.wrap .u16 (256 * (IntKind.wrap .u16 t189))))) w198 h (h200.pick [0, 1, 2] (by decide))
              · skip
                refine RunsI.fix 107 false hc183 (by kernel_rfl) (by kernel_rfl) ?_
                refine RunsI.cond false 87 (by kernel_rfl) ?_
                refine RunsI.go 1 [.c 88] (by kernel_rfl) ?_
                refine RunsI.only [0, 2, 4, 6, 8] [(0, .slice pA0 p0.length pc0), (2, .pointer (some ⟨b2, 0, none⟩)), (4, .int .i64 t155), (6, .pointer (some ⟨b7, 0, none⟩)), (8, .int .i64 t167)] (by kernel_rfl) (by kernel_rfl) ?_
                exact hj206 t177 w179 h (h178.pick [0, 1, 2] (by decide))
            clear hJ181
            rcases of_cond h with ⟨hc168, h⟩ | ⟨hc168, h⟩
            · skip
              refine RunsI.fix 100 true hc168 (by kernel_rfl) (by kernel_rfl) ?_
              refine RunsI.cond true 80 (by kernel_rfl) ?_
              refine RunsI.region (by kernel_rfl) ?_
              refine RegI.pure 2 [0, 2, 4, 6, 8, 101, 102] [(0, .slice pA0 p0.length pc0), (2, .pointer (some ⟨b2, 0, none⟩)), (4, .int .i64 t155), (6, .pointer (some ⟨b7, 0, none⟩)), (8, .int .i64 t167), (101, .slice pA0 p0.length pc0), (102, .int .i64 t155)] (by kernel_rfl) ?_
              obtain ⟨t173, hg172, h⟩ := of_bind h
              refine RegI.op (by kernel_rfl) (OpE.call 103 (by kernel_rfl) 31 #[.slice pA0 p0.length pc0, .int .i64 t155] (by kernel_rfl) ((charabancref08_at_31_ok K _ w163  pA0 pc0 p0 t155 h165.old' (h165.get 0 rfl) hg172).mono ?_))
              rintro _ w169 ⟨rfl, hb170⟩
              refine ⟨_, rfl, ?_⟩
              have h171 := h165.call hb170
              refine RegI.pure 2 [0, 2, 4, 6, 8, 104, 105] [(0, .slice pA0 p0.length pc0), (2, .pointer (some ⟨b2, 0, none⟩)), (4, .int .i64 t155), (6, .pointer (some ⟨b7, 0, none⟩)), (8, .int .i64 t167), (104, .int .u16 (IntKind.wrap .u16 t173)), (105, .pointer (some ⟨b7, 3, none⟩))] (by kernel_rfl) ?_
              refine RegI.op (by kernel_rfl) (OpE.storeBox 2 22 b7 3 (.int .u16 (IntKind.wrap .u16 t173)) [.int .i64 t72, .int .u8 t156, .int .u8 t157, .int .u16 (IntKind.wrap .u16 t173), .int .i64 0, .int .i64 t87] h171 (by kernel_rfl) (by kernel_rfl) rfl (by kernel_rfl) (by kernel_rfl) (by kernel_rfl) ?_)
              intro w174 h175 hk176
              refine RegI.done (by kernel_rfl) ?_
              refine RunsI.only [0, 2, 4, 6, 8] [(0, .slice pA0 p0.length pc0), (2, .pointer (some ⟨b2, 0, none⟩)), (4, .int .i64 t155), (6, .pointer (some ⟨b7, 0, none⟩)), (8, .int .i64 t167)] (by kernel_rfl) (by kernel_rfl) ?_
              exact hj182 (IntKind.wrap .u16 t173) w174 h (h175.pick [0, 1, 2] (by decide))
            · skip
              refine RunsI.fix 100 false hc168 (by kernel_rfl) (by kernel_rfl) ?_
              refine RunsI.cond false 81 (by kernel_rfl) ?_
              refine RunsI.go 1 [.c 82] (by kernel_rfl) ?_
              refine RunsI.only [0, 2, 4, 6, 8] [(0, .slice pA0 p0.length pc0), (2, .pointer (some ⟨b2, 0, none⟩)), (4, .int .i64 t155), (6, .pointer (some ⟨b7, 0, none⟩)), (8, .int .i64 t167)] (by kernel_rfl) (by kernel_rfl) ?_
              exact hj182 0 w163 h (h165.pick [0, 1, 2] (by decide))
          clear hJ161
          rcases of_cond h with ⟨hc100, h⟩ | ⟨hc100, h⟩
          · skip
            refine RunsI.fix 69 true hc100 (by kernel_rfl) (by kernel_rfl) ?_
            refine RunsI.cond true 46 (by kernel_rfl) ?_
            refine RunsI.go 1 [.c 47, .c 48, .blk 2, .c 74] (by kernel_rfl) ?_
            refine RunsI.region (by kernel_rfl) ?_
            refine RegI.pure 3 [0, 2, 4, 6, 72, 74] [(0, .slice pA0 p0.length pc0), (2, .pointer (some ⟨b2, 0, none⟩)), (4, .int .i64 t58), (6, .pointer (some ⟨b7, 0, none⟩)), (72, .slice pA0 p0.length pc0), (74, .int .i64 (IntKind.wrap .i64 (t58 + 1)))] (by kernel_rfl) ?_
            obtain ⟨t105, hg104, h⟩ := of_bind h
            refine RegI.op (by kernel_rfl) (OpE.call 75 (by kernel_rfl) 31 #[.slice pA0 p0.length pc0, .int .i64 (IntKind.wrap .i64 (t58 + 1))] (by kernel_rfl) ((charabancref08_at_31_ok K _ w96  pA0 pc0 p0 (IntKind.wrap .i64 (t58 + 1)) h95.old' (h95.get 0 rfl) hg104).mono ?_))
            rintro _ w101 ⟨rfl, hb102⟩
            refine ⟨_, rfl, ?_⟩
            have h103 := h95.call hb102
            refine RegI.pure 1 [0, 2, 4, 6, 75, 76] [(0, .slice pA0 p0.length pc0), (2, .pointer (some ⟨b2, 0, none⟩)), (4, .int .i64 t58), (6, .pointer (some ⟨b7, 0, none⟩)), (75, .int .u8 t105), (76, .pointer (some ⟨b7, 2, none⟩))] (by kernel_rfl) ?_
            refine RegI.op (by kernel_rfl) (OpE.storeBox 2 5 b7 2 (.int .u8 t105) [.int .i64 t72, .int .u8 0, .int .u8 t105, .int .u16 0, .int .i64 0, .int .i64 t87] h103 (by kernel_rfl) (by kernel_rfl) rfl (by kernel_rfl) (by kernel_rfl) (by kernel_rfl) ?_)
            intro w106 h107 hk108
            refine RegI.done (by kernel_rfl) ?_
            refine RunsI.go 1 [.c 49, .c 50, .blk 2, .c 74] (by kernel_rfl) ?_
            refine RunsI.region (by kernel_rfl) ?_
            refine RegI.pure 3 [0, 2, 4, 6, 77, 79] [(0, .slice pA0 p0.length pc0), (2, .pointer (some ⟨b2, 0, none⟩)), (4, .int .i64 t58), (6, .pointer (some ⟨b7, 0, none⟩)), (77, .slice pA0 p0.length pc0), (79, .int .i64 (IntKind.wrap .i64 (t58 + 2)))] (by kernel_rfl) ?_
            obtain ⟨t113, hg112, h⟩ := of_bind h
            refine RegI.op (by kernel_rfl) (OpE.call 80 (by kernel_rfl) 31 #[.slice pA0 p0.length pc0, .int .i64 (IntKind.wrap .i64 (t58 + 2))] (by kernel_rfl) ((charabancref08_at_31_ok K _ w106  pA0 pc0 p0 (IntKind.wrap .i64 (t58 + 2)) h107.old' (h107.get 0 rfl) hg112).mono ?_))
            rintro _ w109 ⟨rfl, hb110⟩
            refine ⟨_, rfl, ?_⟩
            have h111 := h107.call hb110
            refine RegI.pure 1 [0, 2, 4, 6, 80, 81] [(0, .slice pA0 p0.length pc0), (2, .pointer (some ⟨b2, 0, none⟩)), (4, .int .i64 t58), (6, .pointer (some ⟨b7, 0, none⟩)), (80, .int .u8 t113), (81, .pointer (some ⟨b7, 1, none⟩))] (by kernel_rfl) ?_
            refine RegI.op (by kernel_rfl) (OpE.storeBox 2 5 b7 1 (.int .u8 t113) [.int .i64 t72, .int .u8 t113, .int .u8 t105, .int .u16 0, .int .i64 0, .int .i64 t87] h111 (by kernel_rfl) (by kernel_rfl) rfl (by kernel_rfl) (by kernel_rfl) (by kernel_rfl) ?_)
            intro w114 h115 hk116
            refine RegI.done (by kernel_rfl) ?_
            refine RunsI.region (by kernel_rfl) ?_
            refine RegI.pure 3 [0, 2, 4, 6] [(0, .slice pA0 p0.length pc0), (2, .pointer (some ⟨b2, 0, none⟩)), (4, .int .i64 (IntKind.wrap .i64 (t58 + 3))), (6, .pointer (some ⟨b7, 0, none⟩))] (by kernel_rfl) ?_
            refine RegI.done (by kernel_rfl) ?_
            refine RunsI.only [0, 2, 4, 6] [(0, .slice pA0 p0.length pc0), (2, .pointer (some ⟨b2, 0, none⟩)), (4, .int .i64 (IntKind.wrap .i64 (t58 + 3))), (6, .pointer (some ⟨b7, 0, none⟩))] (by kernel_rfl) (by kernel_rfl) ?_
            exact hj162 (IntKind.wrap .i64 (t58 + 3)) t113 t105 w114 h (h115.pick [0, 1, 2] (by decide))
          · skip
            refine RunsI.fix 69 false hc100 (by kernel_rfl) (by kernel_rfl) ?_
            refine RunsI.cond false 51 (by kernel_rfl) ?_
            refine RunsI.go 2 [.c 53, .c 54, .c 57, .blk 2, .c 74] (by kernel_rfl) ?_
            refine RunsI.region (by kernel_rfl) ?_
            refine RegI.pure 2 [0, 2, 4, 6, 50, 84] [(0, .slice pA0 p0.length pc0), (2, .pointer (some ⟨b2, 0, none⟩)), (4, .int .i64 t58), (6, .pointer (some ⟨b7, 0, none⟩)), (50, .int .i64 t72), (84, .bool (t72 == 1))] (by kernel_rfl) ?_
            refine RegI.done (by kernel_rfl) ?_
            obtain ⟨j121, hJ122, h⟩ := of_let h
            have hj123 : ∀ (t118 : Bool) (w120 : World), j121 t118 = some r → Holds M0 w0 w120 [sl (Rp.int .u8) (.slice pA0 p0.length pc0) p0, box b2 24 [.int .i64 0, .int .u8 0, .int .u8 0, .int .u16 0, .int .i64 0, .int .i64 0], box b7 24 [.int .i64 t72, .int .u8 0, .int .u8 0, .int .u16 0, .int .i64 0, .int .i64 t87]] → RunsI F28 [.c 57, .blk 2, .c 74] [(0, .slice pA0 p0.length pc0), (2, .pointer (some ⟨b2, 0, none⟩)), (4, .int .i64 t58), (6, .pointer (some ⟨b7, 0, none⟩)), (84, .bool t118)] w120 (charabancref08_Next_28.post M0 w0 r) := by
              intro t118 w120 h h119
              rw [hJ122] at h
              clear hJ122
              dsimp only at h
              rcases of_cond h with ⟨hc124, h⟩ | ⟨hc124, h⟩
              · skip
                refine RunsI.fix 84 true hc124 (by kernel_rfl) (by kernel_rfl) ?_
                refine RunsI.cond true 58 (by kernel_rfl) ?_
                refine RunsI.go 1 [.c 59, .c 60, .blk 2, .c 74] (by kernel_rfl) ?_
                refine RunsI.region (by kernel_rfl) ?_
                refine RegI.pure 3 [0, 2, 4, 6, 87, 89] [(0, .slice pA0 p0.length pc0), (2, .pointer (some ⟨b2, 0, none⟩)), (4, .int .i64 t58), (6, .pointer (some ⟨b7, 0, none⟩)), (87, .slice pA0 p0.length pc0), (89, .int .i64 (IntKind.wrap .i64 (t58 + 1)))] (by kernel_rfl) ?_
                obtain ⟨t129, hg128, h⟩ := of_bind h
                refine RegI.op (by kernel_rfl) (OpE.call 90 (by kernel_rfl) 31 #[.slice pA0 p0.length pc0, .int .i64 (IntKind.wrap .i64 (t58 + 1))] (by kernel_rfl) ((charabancref08_at_31_ok K _ w120  pA0 pc0 p0 (IntKind.wrap .i64 (t58 + 1)) h119.old' (h119.get 0 rfl) hg128).mono ?_))
                rintro _ w125 ⟨rfl, hb126⟩
                refine ⟨_, rfl, ?_⟩
                have h127 := h119.call hb126
                refine RegI.pure 1 [0, 2, 4, 6, 90, 91] [(0, .slice pA0 p0.length pc0), (2, .pointer (some ⟨b2, 0, none⟩)), (4, .int .i64 t58), (6, .pointer (some ⟨b7, 0, none⟩)), (90, .int .u8 t129), (91, .pointer (some ⟨b7, 1, none⟩))] (by kernel_rfl) ?_
                refine RegI.op (by kernel_rfl) (OpE.storeBox 2 5 b7 1 (.int .u8 t129) [.int .i64 t72, .int .u8 t129, .int .u8 0, .int .u16 0, .int .i64 0, .int .i64 t87] h127 (by kernel_rfl) (by kernel_rfl) rfl (by kernel_rfl) (by kernel_rfl) (by kernel_rfl) ?_)
                intro w130 h131 hk132
                refine RegI.done (by kernel_rfl) ?_
                refine RunsI.region (by kernel_rfl) ?_
                refine RegI.pure 3 [0, 2, 4, 6] [(0, .slice pA0 p0.length pc0), (2, .pointer (some ⟨b2, 0, none⟩)), (4, .int .i64 (IntKind.wrap .i64 (t58 + 2))), (6, .pointer (some ⟨b7, 0, none⟩))] (by kernel_rfl) ?_
                refine RegI.done (by kernel_rfl) ?_
                refine RunsI.only [0, 2, 4, 6] [(0, .slice pA0 p0.length pc0), (2, .pointer (some ⟨b2, 0, none⟩)), (4, .int .i64 (IntKind.wrap .i64 (t58 + 2))), (6, .pointer (some ⟨b7, 0, none⟩))] (by kernel_rfl) (by kernel_rfl) ?_
                exact hj162 (IntKind.wrap .i64 (t58 + 2)) t129 0 w130 h (h131.pick [0, 1, 2] (by decide))
              · skip
                refine RunsI.fix 84 false hc124 (by kernel_rfl) (by kernel_rfl) ?_
                refine RunsI.cond false 61 (by kernel_rfl) ?_
                refine RunsI.go 1 [.c 62, .c 63, .blk 2, .c 74] (by kernel_rfl) ?_
                refine RunsI.region (by kernel_rfl) ?_
                refine RegI.pure 2 [0, 2, 4, 6, 51, 52] [(0, .slice pA0 p0.length pc0), (2, .pointer (some ⟨b2, 0, none⟩)), (4, .int .i64 t58), (6, .pointer (some ⟨b7, 0, none⟩)), (51, .slice pA0 p0.length pc0), (52, .int .i64 t58)] (by kernel_rfl) ?_
                obtain ⟨t137, hg136, h⟩ := of_bind h
                refine RegI.op (by kernel_rfl) (OpE.call 53 (by kernel_rfl) 31 #[.slice pA0 p0.length pc0, .int .i64 t58] (by kernel_rfl) ((charabancref08_at_31_ok K _ w120  pA0 pc0 p0 t58 h119.old' (h119.get 0 rfl) hg136).mono ?_))
                rintro _ w133 ⟨rfl, hb134⟩
                refine ⟨_, rfl, ?_⟩
                have h135 := h119.call hb134
                refine RegI.pure 1 [0, 2, 4, 6, 53, 54] [(0, .slice pA0 p0.length pc0), (2, .pointer (some ⟨b2, 0, none⟩)), (4, .int .i64 t58), (6, .pointer (some ⟨b7, 0, none⟩)), (53, .int .u8 t137), (54, .pointer (some ⟨b7, 1, none⟩))] (by kernel_rfl) ?_
                refine RegI.op (by kernel_rfl) (OpE.storeBox 2 5 b7 1 (.int .u8 t137) [.int .i64 t72, .int .u8 t137, .int .u8 0, .int .u16 0, .int .i64 0, .int .i64 t87] h135 (by kernel_rfl) (by kernel_rfl) rfl (by kernel_rfl) (by kernel_rfl) (by kernel_rfl) ?_)
                intro w138 h139 hk140
                refine RegI.done (by kernel_rfl) ?_
                refine RunsI.go 1 [.c 64, .c 65, .blk 2, .c 74] (by kernel_rfl) ?_
                refine RunsI.region (by kernel_rfl) ?_
                refine RegI.pure 3 [0, 2, 4, 6] [(0, .slice pA0 p0.length pc0), (2, .pointer (some ⟨b2, 0, none⟩)), (4, .int .i64 (IntKind.wrap .i64 (t58 + 1))), (6, .pointer (some ⟨b7, 0, none⟩))] (by kernel_rfl) ?_
                refine RegI.done (by kernel_rfl) ?_
                refine RunsI.go 1 [.c 66, .c 67, .blk 2, .c 74] (by kernel_rfl) ?_
                refine RunsI.region (by kernel_rfl) ?_
                refine RegI.pure 1 [0, 2, 4, 6, 57] [(0, .slice pA0 p0.length pc0), (2, .pointer (some ⟨b2, 0, none⟩)), (4, .int .i64 (IntKind.wrap .i64 (t58 + 1))), (6, .pointer (some ⟨b7, 0, none⟩)), (57, .pointer (some ⟨b7, 0, none⟩))] (by kernel_rfl) ?_
                refine RegI.op (by kernel_rfl) (OpE.loadBox 58 2 3 b7 0 (.int .i64 t72) h139 (by kernel_rfl) (by kernel_rfl) rfl (by kernel_rfl) ?_)
                refine RegI.pure 1 [0, 2, 4, 6, 58, 59] [(0, .slice pA0 p0.length pc0), (2, .pointer (some ⟨b2, 0, none⟩)), (4, .int .i64 (IntKind.wrap .i64 (t58 + 1))), (6, .pointer (some ⟨b7, 0, none⟩)), (58, .int .i64 t72), (59, .pointer (some ⟨b7, 1, none⟩))] (by kernel_rfl) ?_
                refine RegI.op (by kernel_rfl) (OpE.loadBox 60 2 5 b7 1 (.int .u8 t137) h139 (by kernel_rfl) (by kernel_rfl) rfl (by kernel_rfl) ?_)
                obtain ⟨t145, hg144, h⟩ := of_bind h
                refine RegI.op (by kernel_rfl) (OpE.call 61 (by kernel_rfl) 25 #[.int .i64 t72, .int .u8 t137] (by kernel_rfl) ((charabancref08_Near_25_ok K _ w138  t72 t137 h139.old' hg144).mono ?_))
                rintro _ w141 ⟨rfl, hb142⟩
                refine ⟨_, rfl, ?_⟩
                have h143 := h139.call hb142
                refine RegI.pure 1 [0, 2, 4, 6, 7] [(0, .slice pA0 p0.length pc0), (2, .pointer (some ⟨b2, 0, none⟩)), (4, .int .i64 (IntKind.wrap .i64 (t58 + 1))), (6, .pointer (some ⟨b7, 0, none⟩)), (7, .bool t145)] (by kernel_rfl) ?_
                refine RegI.done (by kernel_rfl) ?_
                refine RunsI.go 1 [.c 68, .c 69, .blk 2, .c 74] (by kernel_rfl) ?_
                refine RunsI.region (by kernel_rfl) ?_
                refine RegI.pure 1 [0, 2, 4, 6, 62] [(0, .slice pA0 p0.length pc0), (2, .pointer (some ⟨b2, 0, none⟩)), (4, .int .i64 (IntKind.wrap .i64 (t58 + 1))), (6, .pointer (some ⟨b7, 0, none⟩)), (62, .bool t145)] (by kernel_rfl) ?_
                refine RegI.done (by kernel_rfl) ?_
                rcases of_cond h with ⟨hc146, h⟩ | ⟨hc146, h⟩
                · skip
                  refine RunsI.fix 62 true hc146 (by kernel_rfl) (by kernel_rfl) ?_
                  refine RunsI.cond true 70 (by kernel_rfl) ?_
                  refine RunsI.go 1 [.c 71, .c 72, .blk 2, .c 74] (by kernel_rfl) ?_
                  refine RunsI.region (by kernel_rfl) ?_
                  refine RegI.pure 2 [0, 2, 4, 6, 63, 64] [(0, .slice pA0 p0.length pc0), (2, .pointer (some ⟨b2, 0, none⟩)), (4, .int .i64 (IntKind.wrap .i64 (t58 + 1))), (6, .pointer (some ⟨b7, 0, none⟩)), (63, .slice pA0 p0.length pc0), (64, .int .i64 (IntKind.wrap .i64 (t58 + 1)))] (by kernel_rfl) ?_
                  obtain ⟨t151, hg150, h⟩ := of_bind h
                  refine RegI.op (by kernel_rfl) (OpE.call 65 (by kernel_rfl) 31 #[.slice pA0 p0.length pc0, .int .i64 (IntKind.wrap .i64 (t58 + 1))] (by kernel_rfl) ((charabancref08_at_31_ok K _ w141  pA0 pc0 p0 (IntKind.wrap .i64 (t58 + 1)) h143.old' (h143.get 0 rfl) hg150).mono ?_))
                  rintro _ w147 ⟨rfl, hb148⟩
                  refine ⟨_, rfl, ?_⟩
                  have h149 := h143.call hb148
                  refine RegI.pure 1 [0, 2, 4, 6, 65, 66] [(0, .slice pA0 p0.length pc0), (2, .pointer (some ⟨b2, 0, none⟩)), (4, .int .i64 (IntKind.wrap .i64 (t58 + 1))), (6, .pointer (some ⟨b7, 0, none⟩)), (65, .int .u8 t151), (66, .pointer (some ⟨b7, 2, none⟩))] (by kernel_rfl) ?_
                  refine RegI.op (by kernel_rfl) (OpE.storeBox 2 5 b7 2 (.int .u8 t151) [.int .i64 t72, .int .u8 t137, .int .u8 t151, .int .u16 0, .int .i64 0, .int .i64 t87] h149 (by kernel_rfl) (by kernel_rfl) rfl (by kernel_rfl) (by kernel_rfl) (by kernel_rfl) ?_)
                  intro w152 h153 hk154
                  refine RegI.done (by kernel_rfl) ?_
                  refine RunsI.region (by kernel_rfl) ?_
                  refine RegI.pure 3 [0, 2, 4, 6] [(0, .slice pA0 p0.length pc0), (2, .pointer (some ⟨b2, 0, none⟩)), (4, .int .i64 (IntKind.wrap .i64 ((IntKind.wrap .i64 (t58 + 1)) + 1))), (6, .pointer (some ⟨b7, 0, none⟩))] (by kernel_rfl) ?_
                  refine RegI.done (by kernel_rfl) ?_
                  refine RunsI.only [0, 2, 4, 6] [(0, .slice pA0 p0.length pc0), (2, .pointer (some ⟨b2, 0, none⟩)), (4, .int .i64 (IntKind.wrap .i64 ((IntKind.wrap .i64 (t58 + 1)) + 1))), (6, .pointer (some ⟨b7, 0, none⟩))] (by kernel_rfl) (by kernel_rfl) ?_
                  exact hj162 (IntKind.wrap .i64 ((IntKind.wrap .i64 (t58 + 1)) + 1)) t137 t151 w152 h (h153.pick [0, 1, 2] (by decide))
                · skip
                  refine RunsI.fix 62 false hc146 (by kernel_rfl) (by kernel_rfl) ?_
                  refine RunsI.cond false 73 (by kernel_rfl) ?_
                  refine RunsI.go 1 [.blk 2, .c 74] (by kernel_rfl) ?_
                  refine RunsI.only [0, 2, 4, 6] [(0, .slice pA0 p0.length pc0), (2, .pointer (some ⟨b2, 0, none⟩)), (4, .int .i64 (IntKind.wrap .i64 (t58 + 1))), (6, .pointer (some ⟨b7, 0, none⟩))] (by kernel_rfl) (by kernel_rfl) ?_
                  exact hj162 (IntKind.wrap .i64 (t58 + 1)) t137 0 w141 h (h143.pick [0, 1, 2] (by decide))
            clear hJ122
            rcases of_cond h with ⟨hc117, h⟩ | ⟨hc117, h⟩
            · skip
              refine RunsI.fix 84 true hc117 (by kernel_rfl) (by kernel_rfl) ?_
              refine RunsI.cond true 55 (by kernel_rfl) ?_
              refine RunsI.go 1 [.c 57, .blk 2, .c 74] (by kernel_rfl) ?_
              refine RunsI.only [0, 2, 4, 6, 84] [(0, .slice pA0 p0.length pc0), (2, .pointer (some ⟨b2, 0, none⟩)), (4, .int .i64 t58), (6, .pointer (some ⟨b7, 0, none⟩)), (84, .bool true)] (by kernel_rfl) (by kernel_rfl) ?_
              exact hj123 true w96 h (h95.pick [0, 1, 2] (by decide))
            · skip
              refine RunsI.fix 84 false hc117 (by kernel_rfl) (by kernel_rfl) ?_
              refine RunsI.cond false 56 (by kernel_rfl) ?_
              refine RunsI.region (by kernel_rfl) ?_
              refine RegI.pure 2 [0, 2, 4, 6, 84] [(0, .slice pA0 p0.length pc0), (2, .pointer (some ⟨b2, 0, none⟩)), (4, .int .i64 t58), (6, .pointer (some ⟨b7, 0, none⟩)), (84, .bool (t72 == 2))] (by kernel_rfl) ?_
              refine RegI.done (by kernel_rfl) ?_
              refine RunsI.only [0, 2, 4, 6, 84] [(0, .slice pA0 p0.length pc0), (2, .pointer (some ⟨b2, 0, none⟩)), (4, .int .i64 t58), (6, .pointer (some ⟨b7, 0, none⟩)), (84, .bool (t72 == 2))] (by kernel_rfl) (by kernel_rfl) ?_
              exact hj123 (t72 == 2) w96 h (h95.pick [0, 1, 2] (by decide))
        clear hJ98
        rcases of_cond h with ⟨hc93, h⟩ | ⟨hc93, h⟩
        · skip
          refine RunsI.fix 69 true hc93 (by kernel_rfl) (by kernel_rfl) ?_
          refine RunsI.cond true 43 (by kernel_rfl) ?_
          refine RunsI.go 1 [.c 45, .blk 2, .c 74] (by kernel_rfl) ?_
          refine RunsI.only [0, 2, 4, 6, 50, 69] [(0, .slice pA0 p0.length pc0), (2, .pointer (some ⟨b2, 0, none⟩)), (4, .int .i64 t58), (6, .pointer (some ⟨b7, 0, none⟩)), (50, .int .i64 t72), (69, .bool true)] (by kernel_rfl) (by kernel_rfl) ?_
          exact hj99 true w89 h (h88.pick [0, 1, 2] (by decide))
        · skip
          refine RunsI.fix 69 false hc93 (by kernel_rfl) (by kernel_rfl) ?_
          refine RunsI.cond false 44 (by kernel_rfl) ?_
          refine RunsI.region (by kernel_rfl) ?_
          refine RegI.pure 2 [0, 2, 4, 6, 50, 69] [(0, .slice pA0 p0.length pc0), (2, .pointer (some ⟨b2, 0, none⟩)), (4, .int .i64 t58), (6, .pointer (some ⟨b7, 0, none⟩)), (50, .int .i64 t72), (69, .bool (t72 == 6))] (by kernel_rfl) ?_
          refine RegI.done (by kernel_rfl) ?_
          refine RunsI.only [0, 2, 4, 6, 50, 69] [(0, .slice pA0 p0.length pc0), (2, .pointer (some ⟨b2, 0, none⟩)), (4, .int .i64 t58), (6, .pointer (some ⟨b7, 0, none⟩)), (50, .int .i64 t72), (69, .bool (t72 == 6))] (by kernel_rfl) (by kernel_rfl) ?_
          exact hj99 (t72 == 6) w89 h (h88.pick [0, 1, 2] (by decide))
      clear hJ91
      rcases of_cond h with ⟨hc83, h⟩ | ⟨hc83, h⟩
      · skip
        refine RunsI.fix 44 true hc83 (by kernel_rfl) (by kernel_rfl) ?_
        refine RunsI.cond true 33 (by kernel_rfl) ?_
        refine RunsI.region (by kernel_rfl) ?_
        refine RegI.pure 1 [0, 2, 4, 6, 45] [(0, .slice pA0 p0.length pc0), (2, .pointer (some ⟨b2, 0, none⟩)), (4, .int .i64 t58), (6, .pointer (some ⟨b7, 0, none⟩)), (45, .pointer (some ⟨b7, 5, none⟩))] (by kernel_rfl) ?_
        refine RegI.op (by kernel_rfl) (OpE.loadBox 46 2 3 b7 5 (.int .i64 t60) h78 (by kernel_rfl) (by kernel_rfl) rfl (by kernel_rfl) ?_)
        refine RegI.pure 2 [0, 2, 4, 6, 47, 48] [(0, .slice pA0 p0.length pc0), (2, .pointer (some ⟨b2, 0, none⟩)), (4, .int .i64 t58), (6, .pointer (some ⟨b7, 0, none⟩)), (47, .int .i64 (IntKind.wrap .i64 (t60 + 1))), (48, .pointer (some ⟨b7, 5, none⟩))] (by kernel_rfl) ?_
        refine RegI.op (by kernel_rfl) (OpE.storeBox 2 3 b7 5 (.int .i64 (IntKind.wrap .i64 (t60 + 1))) [.int .i64 t72, .int .u8 0, .int .u8 0, .int .u16 0, .int .i64 0, .int .i64 (IntKind.wrap .i64 (t60 + 1))] h78 (by kernel_rfl) (by kernel_rfl) rfl (by kernel_rfl) (by kernel_rfl) (by kernel_rfl) ?_)
        intro w84 h85 hk86
        refine RegI.done (by kernel_rfl) ?_
        refine RunsI.only [0, 2, 4, 6] [(0, .slice pA0 p0.length pc0), (2, .pointer (some ⟨b2, 0, none⟩)), (4, .int .i64 t58), (6, .pointer (some ⟨b7, 0, none⟩))] (by kernel_rfl) (by kernel_rfl) ?_
        exact hj92 (IntKind.wrap .i64 (t60 + 1)) w84 h (h85.pick [0, 1, 2] (by decide))
      · skip
        refine RunsI.fix 44 false hc83 (by kernel_rfl) (by kernel_rfl) ?_
        refine RunsI.cond false 34 (by kernel_rfl) ?_
        refine RunsI.go 1 [.c 35] (by kernel_rfl) ?_
        refine RunsI.only [0, 2, 4, 6] [(0, .slice pA0 p0.length pc0), (2, .pointer (some ⟨b2, 0, none⟩)), (4, .int .i64 t58), (6, .pointer (some ⟨b7, 0, none⟩))] (by kernel_rfl) (by kernel_rfl) ?_
        exact hj92 t60 w79 h (h78.pick [0, 1, 2] (by decide))
    clear hJ81
    rcases of_cond h with ⟨hc76, h⟩ | ⟨hc76, h⟩
    · skip
      refine RegI.fix 41 true hc76 (by kernel_rfl) (by kernel_rfl) ?_
      refine RegI.pure 3 [0, 2, 4, 6, 44] [(0, .slice pA0 p0.length pc0), (2, .pointer (some ⟨b2, 0, none⟩)), (4, .int .i64 t58), (6, .pointer (some ⟨b7, 0, none⟩)), (44, .bool (decide (t58 > 0)))] (by kernel_rfl) ?_
      refine RegI.only [0, 2, 4, 6, 44] [(0, .slice pA0 p0.length pc0), (2, .pointer (some ⟨b2, 0, none⟩)), (4, .int .i64 t58), (6, .pointer (some ⟨b7, 0, none⟩)), (44, .bool (decide (t58 > 0)))] (by kernel_rfl) (by kernel_rfl) ?_
      exact hj82 (decide (t58 > 0)) w73 h (h74.pick [0, 1, 2] (by decide))
    · skip
      refine RegI.fix 41 false hc76 (by kernel_rfl) (by kernel_rfl) ?_
      refine RegI.pure 3 [0, 2, 4, 6, 44] [(0, .slice pA0 p0.length pc0), (2, .pointer (some ⟨b2, 0, none⟩)), (4, .int .i64 t58), (6, .pointer (some ⟨b7, 0, none⟩)), (44, .bool false)] (by kernel_rfl) ?_
      refine RegI.only [0, 2, 4, 6, 44] [(0, .slice pA0 p0.length pc0), (2, .pointer (some ⟨b2, 0, none⟩)), (4, .int .i64 t58), (6, .pointer (some ⟨b7, 0, none⟩)), (44, .bool false)] (by kernel_rfl) (by kernel_rfl) ?_
      exact hj82 false w73 h (h74.pick [0, 1, 2] (by decide))
end

/-! ### charabanc/charabancref08.All (function 17) -/
section
def charabancref08_All_17.post (M0 : Nat → Prop) (w0 : World) (r : (List (Int × Int × Int × Int × Int × Int)) × Int) : Ending → World → Prop := fun e w => ∃ (A1 : Option Addr) (c1 : Nat), e = .returned (.tuple #[.slice A1 r.1.length c1, .int .i64 r.2]) ∧ Holds M0 w0 w [own (Rp.pair (Rp.int .i64) (Rp.pair (Rp.int .u8) (Rp.pair (Rp.int .u8) (Rp.pair (Rp.int .u16) (Rp.pair (Rp.int .i64) (Rp.int .i64)))))) 24 (.slice A1 r.1.length c1) r.1]
def charabancref08_All_17.l0 (K : Nat) (p0 : List Int) : Nat → (List Int) → (List (Int × Int × Int × Int × Int × Int)) → Option ((List (Int × Int × Int × Int × Int × Int)) × Int)
  | 0, _, _ => none
  | k + 1, t4, t7 => (charabancref08_Next_28.f K t4).bind fun yt12 => cond (!yt12.2.2.2.2.2.2) (some (t7, (t4.length : Int))) (cond (mayBe (t7.length + ([(yt12.1, yt12.2.1, yt12.2.2.1, yt12.2.2.2.1, yt12.2.2.2.2.1, yt12.2.2.2.2.2.1)] : List (Int × Int × Int × Int × Int × Int)).length) 32) (cond (cutR yt12.2.2.2.2.1 (t4.length : Int) t4.length) (charabancref08_All_17.l0 K p0 k (cutL t4 yt12.2.2.2.2.1 (t4.length : Int)) (t7 ++ ([(yt12.1, yt12.2.1, yt12.2.2.1, yt12.2.2.2.1, yt12.2.2.2.2.1, yt12.2.2.2.2.2.1)] : List (Int × Int × Int × Int × Int × Int)))) none) none)
set_option maxRecDepth 100000 in
theorem charabancref08_All_17.l0_ok (K : Nat) (M0 : Nat → Prop) (w0 : World) (pA0 : Option Addr) (pc0 : Nat) (p0 : List Int) (R : Ending → World → Prop) (x : (List (Int × Int × Int × Int × Int × Int)) × Int) (hk0 : ∀ (t45 : List (Int × Int × Int × Int × Int × Int)) (t46 : Int) (A43 : Option Addr) (c44 : Nat) (w1 : World), x = (t45, t46) → Holds M0 w0 w1 [own (Rp.pair (Rp.int .i64) (Rp.pair (Rp.int .u8) (Rp.pair (Rp.int .u8) (Rp.pair (Rp.int .u16) (Rp.pair (Rp.int .i64) (Rp.int .i64)))))) 24 (.slice A43 t45.length c44) t45] → R (.returned (.tuple #[.slice A43 t45.length c44, .int .i64 t46])) w1) :
    ∀ (k : Nat) (t4 : List Int) (t7 : List (Int × Int × Int × Int × Int × Int)) (A2 : Option Addr) (c3 : Nat) (A5 : Option Addr) (c6 : Nat) (w : World), charabancref08_All_17.l0 K p0 k t4 t7 = some x → Holds M0 w0 w [sl (Rp.int .u8) (.slice A2 t4.length c3) t4, own (Rp.pair (Rp.int .i64) (Rp.pair (Rp.int .u8) (Rp.pair (Rp.int .u8) (Rp.pair (Rp.int .u16) (Rp.pair (Rp.int .i64) (Rp.int .i64)))))) 24 (.slice A5 t7.length c6) t7] → RunsI F17 [.c 6, .lp 6, .blk 0] [(0, .slice A2 t4.length c3), (4, .slice A5 t7.length c6)] w R := by
  intro k
  induction k with
  | zero => intro t4 t7 A2 c3 A5 c6 w h hH; exact absurd h (by simp [charabancref08_All_17.l0])
  | succ k ih =>
    intro t4 t7 A2 c3 A5 c6 w h hH
    rw [charabancref08_All_17.l0.eq_2] at h
    refine RunsI.go 1 [.c 7, .blk 1, .lp 6, .blk 0] (by kernel_rfl) ?_
    refine RunsI.go 1 [.c 8, .c 9, .blk 1, .lp 6, .blk 0] (by kernel_rfl) ?_
    refine RunsI.region (by kernel_rfl) ?_
    refine RegI.pure 1 [0, 4, 8] [(0, .slice A2 t4.length c3), (4, .slice A5 t7.length c6), (8, .slice A2 t4.length c3)] (by kernel_rfl) ?_
    obtain ⟨⟨t12, t13, t14, t15, t16, t17, t18⟩, hg11, h⟩ := of_bind h
    dsimp only at h
    refine RegI.op (by kernel_rfl) (OpE.call 9 (by kernel_rfl) 28 #[.slice A2 t4.length c3] (by kernel_rfl) ((charabancref08_Next_28_ok K _ w  A2 c3 t4 hH.old' (hH.get 0 rfl) hg11).mono ?_))
    rintro _ w8 ⟨rfl, hb9⟩
    refine ⟨_, rfl, ?_⟩
    have h10 := hH.call hb9
    refine RegI.pure 3 [0, 4, 10, 11] [(0, .slice A2 t4.length c3), (4, .slice A5 t7.length c6), (10, .agg #[.int .i64 t12, .int .u8 t13, .int .u8 t14, .int .u16 t15, .int .i64 t16, .int .i64 t17]), (11, .bool t18)] (by kernel_rfl) ?_
    refine RegI.op (by kernel_rfl) (OpE.box 5 24 [.int .i64 0, .int .u8 0, .int .u8 0, .int .u16 0, .int .i64 0, .int .i64 0] h10 (by kernel_rfl) (by kernel_rfl) ?_)
    intro w19 b20 h21 hb22 hn23
    refine RegI.op (by kernel_rfl) (OpE.storeBox 2 24 b20 0 (.agg #[.int .i64 t12, .int .u8 t13, .int .u8 t14, .int .u16 t15, .int .i64 t16, .int .i64 t17]) [.int .i64 t12, .int .u8 t13, .int .u8 t14, .int .u16 t15, .int .i64 t16, .int .i64 t17] h21 (by kernel_rfl) (by kernel_rfl) rfl (by kernel_rfl) (by kernel_rfl) (by kernel_rfl) ?_)
    intro w24 h25 hk26
    refine RegI.pure 1 [0, 4, 5, 6] [(0, .slice A2 t4.length c3), (4, .slice A5 t7.length c6), (5, .pointer (some ⟨b20, 0, none⟩)), (6, .bool t18)] (by kernel_rfl) ?_
    refine RegI.done (by kernel_rfl) ?_
    refine RunsI.go 2 [.c 11, .c 12, .c 17, .blk 1, .lp 6, .blk 0] (by kernel_rfl) ?_
    refine RunsI.region (by kernel_rfl) ?_
    refine RegI.pure 2 [0, 4, 5, 13] [(0, .slice A2 t4.length c3), (4, .slice A5 t7.length c6), (5, .pointer (some ⟨b20, 0, none⟩)), (13, .bool (!t18))] (by kernel_rfl) ?_
    refine RegI.done (by kernel_rfl) ?_
    rcases of_cond h with ⟨hc27, h⟩ | ⟨hc27, h⟩
    · skip
      refine RunsI.fix 13 true hc27 (by kernel_rfl) (by kernel_rfl) ?_
      refine RunsI.cond true 13 (by kernel_rfl) ?_
      refine RunsI.go 1 [.c 14, .c 15, .c 17, .blk 1, .lp 6, .blk 0] (by kernel_rfl) ?_
      refine RunsI.region (by kernel_rfl) ?_
      refine RegI.pure 5 [2, 3] [(2, .slice A5 t7.length c6), (3, .int .i64 (t4.length : Int))] (by kernel_rfl) ?_
      refine RegI.done (by kernel_rfl) ?_
      refine RunsI.ret (.tuple #[.slice A5 t7.length c6, .int .i64 (t4.length : Int)]) (by kernel_rfl) (by kernel_rfl) ?_
      exact hk0 t7 (t4.length : Int) A5 c6 w24 (Option.some.inj h).symm (h25.pick [1] (by decide))
    · skip
      refine RunsI.fix 13 false hc27 (by kernel_rfl) (by kernel_rfl) ?_
      refine RunsI.cond false 16 (by kernel_rfl) ?_
      refine RunsI.go 1 [.c 17, .blk 1, .lp 6, .blk 0] (by kernel_rfl) ?_
      refine RunsI.go 1 [.c 18, .c 19, .blk 1, .lp 6, .blk 0] (by kernel_rfl) ?_
      refine RunsI.region (by kernel_rfl) ?_
      refine RegI.pure 1 [0, 5, 17] [(0, .slice A2 t4.length c3), (5, .pointer (some ⟨b20, 0, none⟩)), (17, .slice A5 t7.length c6)] (by kernel_rfl) ?_
      refine RegI.op (by kernel_rfl) (OpE.loadBox 18 2 24 b20 0 (.agg #[.int .i64 t12, .int .u8 t13, .int .u8 t14, .int .u16 t15, .int .i64 t16, .int .i64 t17]) h25 (by kernel_rfl) (by kernel_rfl) rfl (by kernel_rfl) ?_)
      refine RegI.op (by kernel_rfl) (OpE.lit 19 24 [.int .i64 t12, .int .u8 t13, .int .u8 t14, .int .u16 t15, .int .i64 t16, .int .i64 t17] 1 h25 (by kernel_rfl) (by kernel_rfl) ?_)
      intro w28 b29 h30 hb31 hn32
      obtain ⟨hc33, h⟩ := of_cond0 h
      refine RegI.op (by kernel_rfl) (OpE.appendBox 20 1 3 36 24 32 ([(t12, t13, t14, t15, t16, t17)] : List (Int × Int × Int × Int × Int × Int)) 0 h30 (by kernel_rfl) (by kernel_rfl) (by kernel_rfl) rfl rfl rfl (⟨[_, _, _, _, _, _], _, rfl, ⟨[_], [_, _, _, _, _], rfl, rfl, ⟨[_], [_, _, _, _], rfl, rfl, ⟨[_], [_, _, _], rfl, rfl, ⟨[_], [_, _], rfl, rfl, ⟨[_], [_], rfl, rfl, rfl⟩⟩⟩⟩⟩, rfl⟩) hc33 ?_)
      intro w34 A35 c36 h37 hk38
      refine RegI.pure 1 [0, 4, 5] [(0, .slice A2 t4.length c3), (4, .slice A35 ((t7 ++ ([(t12, t13, t14, t15, t16, t17)] : List (Int × Int × Int × Int × Int × Int))).length) c36), (5, .pointer (some ⟨b20, 0, none⟩))] (by kernel_rfl) ?_
      refine RegI.done (by kernel_rfl) ?_
      refine RunsI.region (by kernel_rfl) ?_
      refine RegI.pure 2 [4, 21, 22] [(4, .slice A35 ((t7 ++ ([(t12, t13, t14, t15, t16, t17)] : List (Int × Int × Int × Int × Int × Int))).length) c36), (21, .slice A2 t4.length c3), (22, .pointer (some ⟨b20, 4, none⟩))] (by kernel_rfl) ?_
      refine RegI.op (by kernel_rfl) (OpE.loadBox 23 2 3 b20 4 (.int .i64 t16) h37 (by kernel_rfl) (by kernel_rfl) rfl (by kernel_rfl) ?_)
      obtain ⟨hc39, h⟩ := of_cond0 h
      refine RegI.op (by kernel_rfl) (OpE.cutSl 24 0 29 (some t16) none h37 (by kernel_rfl) rfl (by kernel_rfl) (by kernel_rfl) hc39 ?_)
      intro A40 c41 h42
      refine RegI.pure 1 [0, 4] [(0, .slice A40 ((cutL t4 t16 (t4.length : Int)).length) c41), (4, .slice A35 ((t7 ++ ([(t12, t13, t14, t15, t16, t17)] : List (Int × Int × Int × Int × Int × Int))).length) c36)] (by kernel_rfl) ?_
      refine RegI.done (by kernel_rfl) ?_
      refine RunsI.go 2 [.c 6, .lp 6, .blk 0] (by kernel_rfl) ?_
      refine RunsI.only [0, 4] [(0, .slice A40 ((cutL t4 t16 (t4.length : Int)).length) c41), (4, .slice A35 ((t7 ++ ([(t12, t13, t14, t15, t16, t17)] : List (Int × Int × Int × Int × Int × Int))).length) c36)] (by kernel_rfl) (by kernel_rfl) ?_
      exact ih (cutL t4 t16 (t4.length : Int)) (t7 ++ ([(t12, t13, t14, t15, t16, t17)] : List (Int × Int × Int × Int × Int × Int))) A40 c41 A35 c36 w34 h (h42.pick [4, 1] (by decide))
def charabancref08_All_17.f (K : Nat) (p0 : List Int) : Option ((List (Int × Int × Int × Int × Int × Int)) × Int) := (charabancref08_All_17.l0 K p0 K p0 ([] : List (Int × Int × Int × Int × Int × Int))).bind (fun yx47 => some (yx47.1, yx47.2))
set_option maxRecDepth 100000 in
theorem charabancref08_All_17_ok (K : Nat) (M0 : Nat → Prop) (w0 : World) (pA0 : Option Addr) (pc0 : Nat) (p0 : List Int) (ho : ∀ b, M0 b → b < w0.heap.size) (hs0 : Sl (Rp.int .u8) w0 M0 (.slice pA0 p0.length pc0) p0) {r : (List (Int × Int × Int × Int × Int × Int)) × Int} (h : charabancref08_All_17.f K p0 = some r) :
    Calls Tryd.prog 17 #[.slice pA0 p0.length pc0] w0 (charabancref08_All_17.post M0 w0 r) := by
  unfold charabancref08_All_17.f at h
  have h0 : Holds M0 w0 w0 [] := Holds.start ho
  have h00 := h0.addSl (Rp.int .u8) (.slice pA0 p0.length pc0) p0 (hs0.mono (fun _ _ hm => hm.elim id (fun hm => absurd hm (by simp [mines, sl]))))
  have h0 : Holds M0 w0 w0 [sl (Rp.int .u8) (.slice pA0 p0.length pc0) p0] := h00
  refine calls_of F17 rfl [.slice pA0 p0.length pc0] (by kernel_rfl) ?_
  refine RunsI.go 1 [.c 1, .c 2] (by kernel_rfl) ?_
  refine RunsI.region (by kernel_rfl) ?_
  refine RegI.pure 2 [0] [(0, .slice pA0 p0.length pc0)] (by kernel_rfl) ?_
  refine RegI.done (by kernel_rfl) ?_
  refine RunsI.go 1 [.c 3, .c 4] (by kernel_rfl) ?_
  refine RunsI.region (by kernel_rfl) ?_
  refine RegI.pure 1 [0, 4] [(0, .slice pA0 p0.length pc0), (4, .slice none 0 0)] (by kernel_rfl) ?_
  refine RegI.done (by kernel_rfl) ?_
  refine RunsI.go 2 [.c 6, .lp 6, .blk 0] (by kernel_rfl) ?_
  obtain ⟨x47, hx48, h⟩ := of_bind h
  have h1 := h0.addOwnNil (Rp.pair (Rp.int .i64) (Rp.pair (Rp.int .u8) (Rp.pair (Rp.int .u8) (Rp.pair (Rp.int .u16) (Rp.pair (Rp.int .i64) (Rp.int .i64)))))) 24
  refine RunsI.only [0, 4] [(0, .slice pA0 p0.length pc0), (4, .slice none (([] : List (Int × Int × Int × Int × Int × Int)).length) 0)] (by kernel_rfl) (by kernel_rfl) ?_
  refine charabancref08_All_17.l0_ok K M0 w0 pA0 pc0 p0 _ x47 ?_ K p0 ([] : List (Int × Int × Int × Int × Int × Int)) pA0 pc0 none 0 w0 hx48 (h1.pick [0, 1] (by decide))
  · intro t51 t52 A49 c50 w54 hq55 h53
    (try rw [hq55] at h)
    dsimp only at h
    obtain rfl := Option.some.inj h
    exact ⟨A49, c50, rfl, h53.pick [0] (by decide)⟩
end

/-! ### charabanc/charabancref10.All (function 14) -/
section
def charabancref10_All_14.post (M0 : Nat → Prop) (w0 : World) (r : Int) : Ending → World → Prop := fun e w => e = .returned (.int .i64 r) ∧ Below w0.heap.size w0 w
def charabancref10_All_14.l0 (K : Nat) (p0 : List Int) (t13 : List (Int × Int × Int × Int × Int × Int)) : Nat → Int → Int → Option Int
  | 0, _, _ => none
  | k + 1, t14, t15 => cond (decide (t15 < (t13.length : Int))) (cond (inR t15 t13.length) ((charabancref10_Of_10.f K ((rdD t13 t15).1) ((rdD t13 t15).2.1) ((rdD t13 t15).2.2.1) ((rdD t13 t15).2.2.2.1) ((rdD t13 t15).2.2.2.2.1) ((rdD t13 t15).2.2.2.2.2) false).bind fun t24 => charabancref10_All_14.l0 K p0 t13 k (IntKind.wrap .i64 (t14 + t24)) (IntKind.wrap .i64 (t15 + 1))) none) (some t14)
set_option maxRecDepth 100000 in
theorem charabancref10_All_14.l0_ok (K : Nat) (M0 : Nat → Prop) (w0 : World) (pA0 : Option Addr) (pc0 : Nat) (p0 : List Int) (t13 : List (Int × Int × Int × Int × Int × Int)) (A11 : Option Addr) (c12 : Nat) (R : Ending → World → Prop) (x : Int) (hk0 : ∀ (t25 : Int) (w1 : World), x = t25 → Holds M0 w0 w1 [] → RunsI F14 [.c 21] [(5, .int .i64 t25)] w1 R) :
    ∀ (k : Nat) (t14 : Int) (t15 : Int) (w : World), charabancref10_All_14.l0 K p0 t13 k t14 t15 = some x → Holds M0 w0 w [own (Rp.pair (Rp.int .i64) (Rp.pair (Rp.int .u8) (Rp.pair (Rp.int .u8) (Rp.pair (Rp.int .u16) (Rp.pair (Rp.int .i64) (Rp.int .i64)))))) 24 (.slice A11 t13.length c12) t13] → RunsI F14 [.c 11, .lp 11, .blk 0, .c 21] [(3, .slice A11 t13.length c12), (5, .int .i64 t14), (6, .int .i64 t15)] w R := by
  intro k
  induction k with
  | zero => intro t14 t15 w h hH; exact absurd h (by simp [charabancref10_All_14.l0])
  | succ k ih =>
    intro t14 t15 w h hH
    rw [charabancref10_All_14.l0.eq_2] at h
    refine RunsI.go 1 [.c 12, .c 17, .lp 11, .blk 0, .c 21] (by kernel_rfl) ?_
    refine RunsI.go 1 [.c 13, .c 14, .c 17, .lp 11, .blk 0, .c 21] (by kernel_rfl) ?_
    refine RunsI.region (by kernel_rfl) ?_
    refine RegI.pure 4 [3, 5, 6, 15] [(3, .slice A11 t13.length c12), (5, .int .i64 t14), (6, .int .i64 t15), (15, .bool (decide (t15 < (t13.length : Int))))] (by kernel_rfl) ?_
    refine RegI.done (by kernel_rfl) ?_
    rcases of_cond h with ⟨hc16, h⟩ | ⟨hc16, h⟩
    · skip
      refine RunsI.fix 15 true hc16 (by kernel_rfl) (by kernel_rfl) ?_
      refine RunsI.cond true 15 (by kernel_rfl) ?_
      refine RunsI.go 1 [.c 17, .lp 11, .blk 0, .c 21] (by kernel_rfl) ?_
      refine RunsI.go 2 [.c 19, .blk 1, .c 20, .lp 11, .blk 0, .c 21] (by kernel_rfl) ?_
      refine RunsI.region (by kernel_rfl) ?_
      refine RegI.pure 3 [3, 6, 18, 19, 20] [(3, .slice A11 t13.length c12), (6, .int .i64 t15), (18, .int .i64 t14), (19, .slice A11 t13.length c12), (20, .int .i64 t15)] (by kernel_rfl) ?_
      obtain ⟨hc17, h⟩ := of_cond0 h
      refine RegI.op (by kernel_rfl) (OpE.idxOwnA 21 0 36 24 t15 hH (by kernel_rfl) rfl (by kernel_rfl) (by kernel_rfl) hc17 ?_)
      refine RegI.op (by kernel_rfl) (OpE.loadOwnA 22 0 24 24 t15 0 (o := (Int.toNat t15) * 6 + 0) hH (by kernel_rfl) rfl (by kernel_rfl) (by kernel_rfl) hc17 (fun cs18 hk19 => ?_))
      obtain ⟨_, _, rfl, rfl, ⟨_, _, rfl, rfl, ⟨_, _, rfl, rfl, ⟨_, _, rfl, rfl, ⟨_, _, rfl, rfl, rfl⟩⟩⟩⟩⟩ := hk19
      refine ⟨.agg #[.int .i64 ((rdD t13 t15).1), .int .u8 ((rdD t13 t15).2.1), .int .u8 ((rdD t13 t15).2.2.1), .int .u16 ((rdD t13 t15).2.2.2.1), .int .i64 ((rdD t13 t15).2.2.2.2.1), .int .i64 ((rdD t13 t15).2.2.2.2.2)], by kernel_rfl, ?_⟩
      obtain ⟨t24, hg23, h⟩ := of_bind h
      refine RegI.op (by kernel_rfl) (OpE.call 23 (by kernel_rfl) 10 #[.agg #[.int .i64 ((rdD t13 t15).1), .int .u8 ((rdD t13 t15).2.1), .int .u8 ((rdD t13 t15).2.2.1), .int .u16 ((rdD t13 t15).2.2.2.1), .int .i64 ((rdD t13 t15).2.2.2.2.1), .int .i64 ((rdD t13 t15).2.2.2.2.2)], .bool false] (by kernel_rfl) ((charabancref10_Of_10_ok K _ w  ((rdD t13 t15).1) ((rdD t13 t15).2.1) ((rdD t13 t15).2.2.1) ((rdD t13 t15).2.2.2.1) ((rdD t13 t15).2.2.2.2.1) ((rdD t13 t15).2.2.2.2.2) false hH.old' hg23).mono ?_))
      rintro _ w20 ⟨rfl, hb21⟩
      refine ⟨_, rfl, ?_⟩
      have h22 := hH.call hb21
      refine RegI.pure 2 [3, 5, 6] [(3, .slice A11 t13.length c12), (5, .int .i64 (IntKind.wrap .i64 (t14 + t24))), (6, .int .i64 t15)] (by kernel_rfl) ?_
      refine RegI.done (by kernel_rfl) ?_
      refine RunsI.go 1 [.c 20, .lp 11, .blk 0, .c 21] (by kernel_rfl) ?_
      refine RunsI.region (by kernel_rfl) ?_
      refine RegI.pure 3 [3, 5, 6] [(3, .slice A11 t13.length c12), (5, .int .i64 (IntKind.wrap .i64 (t14 + t24))), (6, .int .i64 (IntKind.wrap .i64 (t15 + 1)))] (by kernel_rfl) ?_
      refine RegI.done (by kernel_rfl) ?_
      refine RunsI.go 1 [.c 11, .lp 11, .blk 0, .c 21] (by kernel_rfl) ?_
      refine RunsI.only [3, 5, 6] [(3, .slice A11 t13.length c12), (5, .int .i64 (IntKind.wrap .i64 (t14 + t24))), (6, .int .i64 (IntKind.wrap .i64 (t15 + 1)))] (by kernel_rfl) (by kernel_rfl) ?_
      exact ih (IntKind.wrap .i64 (t14 + t24)) (IntKind.wrap .i64 (t15 + 1)) w20 h (h22.pick [0] (by decide))
    · skip
      refine RunsI.fix 15 false hc16 (by kernel_rfl) (by kernel_rfl) ?_
      refine RunsI.cond false 16 (by kernel_rfl) ?_
      refine RunsI.go 1 [.c 21] (by kernel_rfl) ?_
      refine RunsI.only [5] [(5, .int .i64 t14)] (by kernel_rfl) (by kernel_rfl) ?_
      exact hk0 t14 w (Option.some.inj h).symm (hH.pick [] (by decide))
def charabancref10_All_14.f (K : Nat) (p0 : List Int) : Option Int := (charabancref08_All_17.f K p0).bind fun yt5 => (charabancref10_All_14.l0 K p0 yt5.1 K 0 0).bind (fun t28 => some t28)
set_option maxRecDepth 100000 in
theorem charabancref10_All_14_ok (K : Nat) (M0 : Nat → Prop) (w0 : World) (pA0 : Option Addr) (pc0 : Nat) (p0 : List Int) (ho : ∀ b, M0 b → b < w0.heap.size) (hs0 : Sl (Rp.int .u8) w0 M0 (.slice pA0 p0.length pc0) p0) {r : Int} (h : charabancref10_All_14.f K p0 = some r) :
    Calls Tryd.prog 14 #[.slice pA0 p0.length pc0] w0 (charabancref10_All_14.post M0 w0 r) := by
  unfold charabancref10_All_14.f at h
  have h0 : Holds M0 w0 w0 [] := Holds.start ho
  have h00 := h0.addSl (Rp.int .u8) (.slice pA0 p0.length pc0) p0 (hs0.mono (fun _ _ hm => hm.elim id (fun hm => absurd hm (by simp [mines, sl]))))
  have h0 : Holds M0 w0 w0 [sl (Rp.int .u8) (.slice pA0 p0.length pc0) p0] := h00
  refine calls_of F14 rfl [.slice pA0 p0.length pc0] (by kernel_rfl) ?_
  refine RunsI.go 1 [.c 1, .c 2] (by kernel_rfl) ?_
  refine RunsI.region (by kernel_rfl) ?_
  refine RegI.pure 1 [0] [(0, .slice pA0 p0.length pc0)] (by kernel_rfl) ?_
  refine RegI.done (by kernel_rfl) ?_
  refine RunsI.go 1 [.c 3, .c 4] (by kernel_rfl) ?_
  refine RunsI.region (by kernel_rfl) ?_
  refine RegI.pure 1 [8] [(8, .slice pA0 p0.length pc0)] (by kernel_rfl) ?_
  obtain ⟨⟨t5, t9⟩, hg4, h⟩ := of_bind h
  dsimp only at h
  refine RegI.op (by kernel_rfl) (OpE.call 9 (by kernel_rfl) 17 #[.slice pA0 p0.length pc0] (by kernel_rfl) ((charabancref08_All_17_ok K _ w0  pA0 pc0 p0 h0.old' (h0.get 0 rfl) hg4).mono ?_))
  rintro _ w1 ⟨A6, c7, rfl, hr10⟩
  refine ⟨_, rfl, ?_⟩
  have hb2 := hr10.below
  have h3 := h0.join hr10
  refine RegI.pure 5 [3] [(3, .slice A6 t5.length c7)] (by kernel_rfl) ?_
  refine RegI.done (by kernel_rfl) ?_
  refine RunsI.go 1 [.c 5, .c 6] (by kernel_rfl) ?_
  refine RunsI.region (by kernel_rfl) ?_
  refine RegI.pure 1 [3, 5] [(3, .slice A6 t5.length c7), (5, .int .i64 0)] (by kernel_rfl) ?_
  refine RegI.done (by kernel_rfl) ?_
  refine RunsI.go 2 [.c 8, .c 9, .c 21] (by kernel_rfl) ?_
  refine RunsI.region (by kernel_rfl) ?_
  refine RegI.pure 1 [3, 5, 6] [(3, .slice A6 t5.length c7), (5, .int .i64 0), (6, .int .i64 0)] (by kernel_rfl) ?_
  refine RegI.done (by kernel_rfl) ?_
  refine RunsI.go 2 [.c 11, .lp 11, .blk 0, .c 21] (by kernel_rfl) ?_
  obtain ⟨x26, hx27, h⟩ := of_bind h
  refine RunsI.only [3, 5, 6] [(3, .slice A6 t5.length c7), (5, .int .i64 0), (6, .int .i64 0)] (by kernel_rfl) (by kernel_rfl) ?_
  refine charabancref10_All_14.l0_ok K M0 w0 pA0 pc0 p0 t5 A6 c7 _ x26 ?_ K 0 0 w1 hx27 (h3.pick [1] (by decide))
  · intro t28 w30 hq31 h29
    (try rw [hq31] at h)
    refine RunsI.go 1 [.c 22, .c 23] (by kernel_rfl) ?_
    refine RunsI.region (by kernel_rfl) ?_
    refine RegI.pure 2 [2] [(2, .int .i64 t28)] (by kernel_rfl) ?_
    refine RegI.done (by kernel_rfl) ?_
    refine RunsI.ret (.int .i64 t28) (by kernel_rfl) (by kernel_rfl) ?_
    obtain rfl := Option.some.inj h
    exact ⟨rfl, h29.below⟩
end
end Go.Proofs.YtmcdkmakjjlcnaaDoor.Tim
