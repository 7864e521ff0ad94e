/- Functions of the program as plain Lean functions, each with the proof that the call comes to it; written by wip/eng.py. -/
import Derived.Test.YtmcdkmakjjlcnaaDec2
set_option linter.unusedVariables false
set_option linter.unusedSimpArgs false
set_option maxHeartbeats 4000000
namespace Go.Proofs.Ytmcdkmakjjlcnaa.Dec
open Go.RowKit Go.Eng
/-! ### charabanc/charabancref08.Bytes (function 21) -/
section
def charabancref08_Bytes_21.post (M0 : Nat → Prop) (w0 : World) (r : (List Int)) : Ending → World → Prop := fun e w => ∃ (A1 : Option Addr) (c1 : Nat), e = .returned (.slice A1 r.length c1) ∧ Holds M0 w0 w [own (Rp.int .u8) 5 (.slice A1 r.length c1) r]
def charabancref08_Bytes_21.f (K : Nat) (p0_0 : Int) (p0_1 : Int) (p0_2 : Int) (p0_3 : Int) (p0_4 : Int) (p0_5 : Int) : Option (List Int) := Let (fun (t50 : (List Int)) => cond (mayBe (t50.length + ([p0_1] : List Int).length) 1) ((charabancref08_Near_14.f K p0_0 p0_1).bind fun t71 => Let (fun (t86 : (List Int)) => (charabancref08_Size_12.f K p0_0 p0_1).bind fun t96 => Let (fun (t111 : (List Int)) => cond (decide (t96 > 1)) (cond (mayBe (t111.length + ([(IntKind.wrap .u8 (IntKind.wrap .u16 (Int.tdiv p0_3 256)))] : List Int).length) 1) (some (t111 ++ ([(IntKind.wrap .u8 (IntKind.wrap .u16 (Int.tdiv p0_3 256)))] : List Int))) none) (some t111)) (fun j114 => cond (decide (t96 > 0)) (cond (mayBe (t86.length + ([(IntKind.wrap .u8 (Int.tmod p0_3 256))] : List Int).length) 1) (j114 (t86 ++ ([(IntKind.wrap .u8 (Int.tmod p0_3 256))] : List Int))) none) (j114 t86))) (fun j89 => cond t71 (cond (mayBe ((t50 ++ ([p0_1] : List Int)).length + ([p0_2] : List Int).length) 1) (j89 ((t50 ++ ([p0_1] : List Int)) ++ ([p0_2] : List Int))) none) (j89 (t50 ++ ([p0_1] : List Int))))) none) (fun j53 => cond (p0_0 == 0) (j53 ([] : List Int)) (cond (p0_0 == 1) (j53 ([203] : List Int)) (cond (p0_0 == 2) (j53 ([237] : List Int)) (cond (p0_0 == 3) (j53 ([221] : List Int)) (cond (p0_0 == 4) (j53 ([253] : List Int)) (cond (p0_0 == 5) (some ([221, 203, p0_2, p0_1] : List Int)) (cond (p0_0 == 6) (some ([253, 203, p0_2, p0_1] : List Int)) (some ([] : List Int)))))))))
set_option maxRecDepth 100000 in
theorem charabancref08_Bytes_21_ok (K : Nat) (M0 : Nat → Prop) (w0 : World) (p0_0 : Int) (p0_1 : Int) (p0_2 : Int) (p0_3 : Int) (p0_4 : Int) (p0_5 : Int) (ho : ∀ b, M0 b → b < w0.heap.size) {r : (List Int)} (h : charabancref08_Bytes_21.f K p0_0 p0_1 p0_2 p0_3 p0_4 p0_5 = some r) :
    Calls Try.prog 21 #[.agg #[.int .i64 p0_0, .int .u8 p0_1, .int .u8 p0_2, .int .u16 p0_3, .int .i64 p0_4, .int .i64 p0_5]] w0 (charabancref08_Bytes_21.post M0 w0 r) := by
  unfold charabancref08_Bytes_21.f at h
  have h0 : Holds M0 w0 w0 [] := Holds.start ho
  have h0 : Holds M0 w0 w0 [] := h0
  refine calls_of F21 rfl [.agg #[.int .i64 p0_0, .int .u8 p0_1, .int .u8 p0_2, .int .u16 p0_3, .int .i64 p0_4, .int .i64 p0_5]] (by kernel_rfl) ?_
  refine RunsI.go 1 [.c 1, .c 2] (by kernel_rfl) ?_
  refine RunsI.region (by kernel_rfl) ?_
  refine RegI.op (by kernel_rfl) (OpE.box 1 30 [.int .i64 p0_0, .int .u8 p0_1, .int .u8 p0_2, .int .u16 p0_3, .int .i64 p0_4, .int .i64 p0_5] h0 (by kernel_rfl) (by kernel_rfl) ?_)
  intro w1 b2 h3 hb4 hn5
  refine RegI.pure 1 [1] [(1, .pointer (some ⟨b2, 0, none⟩))] (by kernel_rfl) ?_
  refine RegI.done (by kernel_rfl) ?_
  refine RunsI.go 1 [.c 3, .c 4] (by kernel_rfl) ?_
  refine RunsI.region (by kernel_rfl) ?_
  refine RegI.pure 1 [1, 3] [(1, .pointer (some ⟨b2, 0, none⟩)), (3, .slice none 0 0)] (by kernel_rfl) ?_
  refine RegI.done (by kernel_rfl) ?_
  refine RunsI.go 2 [.c 6, .c 7, .c 43] (by kernel_rfl) ?_
  refine RunsI.region (by kernel_rfl) ?_
  refine RegI.pure 1 [1, 3, 6] [(1, .pointer (some ⟨b2, 0, none⟩)), (3, .slice none 0 0), (6, .pointer (some ⟨b2, 0, none⟩))] (by kernel_rfl) ?_
  refine RegI.op (by kernel_rfl) (OpE.loadBox 7 0 3 b2 0 (.int .i64 p0_0) h3 (by kernel_rfl) (by kernel_rfl) rfl (by kernel_rfl) ?_)
  refine RegI.done (by kernel_rfl) ?_
  refine RunsI.go 2 [.c 9, .c 10, .blk 0, .c 43] (by kernel_rfl) ?_
  refine RunsI.region (by kernel_rfl) ?_
  refine RegI.pure 2 [1, 3, 7, 8] [(1, .pointer (some ⟨b2, 0, none⟩)), (3, .slice none 0 0), (7, .int .i64 p0_0), (8, .bool (p0_0 == 0))] (by kernel_rfl) ?_
  refine RegI.done (by kernel_rfl) ?_
  obtain ⟨j53, hJ54, h⟩ := of_let h
  have hj55 : ∀ (t50 : List Int) (A48 : Option Addr) (c49 : Nat) (w52 : World), j53 t50 = some r → Holds M0 w0 w52 [box b2 30 [.int .i64 p0_0, .int .u8 p0_1, .int .u8 p0_2, .int .u16 p0_3, .int .i64 p0_4, .int .i64 p0_5], own (Rp.int .u8) 5 (.slice A48 t50.length c49) t50] → RunsI F21 [.blk 0, .c 43] [(1, .pointer (some ⟨b2, 0, none⟩)), (3, .slice A48 t50.length c49)] w52 (charabancref08_Bytes_21.post M0 w0 r) := by
    intro t50 A48 c49 w52 h h51
    rw [hJ54] at h
    clear hJ54
    dsimp only at h
    refine RunsI.go 2 [.c 44, .c 45] (by kernel_rfl) ?_
    refine RunsI.region (by kernel_rfl) ?_
    refine RegI.pure 2 [1, 36, 37] [(1, .pointer (some ⟨b2, 0, none⟩)), (36, .slice A48 t50.length c49), (37, .pointer (some ⟨b2, 1, none⟩))] (by kernel_rfl) ?_
    refine RegI.op (by kernel_rfl) (OpE.loadBox 38 0 5 b2 1 (.int .u8 p0_1) h51 (by kernel_rfl) (by kernel_rfl) rfl (by kernel_rfl) ?_)
    refine RegI.op (by kernel_rfl) (OpE.lit 39 5 [.int .u8 p0_1] 1 h51 (by kernel_rfl) (by kernel_rfl) ?_)
    intro w56 b57 h58 hb59 hn60
    obtain ⟨hc61, h⟩ := of_cond0 h
    refine RegI.op (by kernel_rfl) (OpE.appendBox 40 1 2 27 5 1 ([p0_1] : List Int) 0 h58 (by kernel_rfl) (by kernel_rfl) (by kernel_rfl) rfl rfl rfl (cells_int _ _ _ _) hc61 ?_)
    intro w62 A63 c64 h65 hk66
    refine RegI.pure 1 [1, 3] [(1, .pointer (some ⟨b2, 0, none⟩)), (3, .slice A63 ((t50 ++ ([p0_1] : List Int)).length) c64)] (by kernel_rfl) ?_
    refine RegI.done (by kernel_rfl) ?_
    refine RunsI.go 1 [.c 46, .c 47] (by kernel_rfl) ?_
    refine RunsI.region (by kernel_rfl) ?_
    refine RegI.pure 1 [1, 3, 41] [(1, .pointer (some ⟨b2, 0, none⟩)), (3, .slice A63 ((t50 ++ ([p0_1] : List Int)).length) c64), (41, .pointer (some ⟨b2, 0, none⟩))] (by kernel_rfl) ?_
    refine RegI.op (by kernel_rfl) (OpE.loadBox 42 0 3 b2 0 (.int .i64 p0_0) h65 (by kernel_rfl) (by kernel_rfl) rfl (by kernel_rfl) ?_)
    refine RegI.pure 1 [1, 3, 42, 43] [(1, .pointer (some ⟨b2, 0, none⟩)), (3, .slice A63 ((t50 ++ ([p0_1] : List Int)).length) c64), (42, .int .i64 p0_0), (43, .pointer (some ⟨b2, 1, none⟩))] (by kernel_rfl) ?_
    refine RegI.op (by kernel_rfl) (OpE.loadBox 44 0 5 b2 1 (.int .u8 p0_1) h65 (by kernel_rfl) (by kernel_rfl) rfl (by kernel_rfl) ?_)
    obtain ⟨t71, hg70, h⟩ := of_bind h
    refine RegI.op (by kernel_rfl) (OpE.call 45 (by kernel_rfl) 14 #[.int .i64 p0_0, .int .u8 p0_1] (by kernel_rfl) ((charabancref08_Near_14_ok K _ w62  p0_0 p0_1 h65.old' hg70).mono ?_))
    rintro _ w67 ⟨rfl, hb68⟩
    refine ⟨_, rfl, ?_⟩
    have h69 := h65.call hb68
    refine RegI.pure 1 [1, 3, 4] [(1, .pointer (some ⟨b2, 0, none⟩)), (3, .slice A63 ((t50 ++ ([p0_1] : List Int)).length) c64), (4, .bool t71)] (by kernel_rfl) ?_
    refine RegI.done (by kernel_rfl) ?_
    refine RunsI.go 2 [.c 49, .c 50, .c 53] (by kernel_rfl) ?_
    refine RunsI.region (by kernel_rfl) ?_
    refine RegI.pure 1 [1, 3, 46] [(1, .pointer (some ⟨b2, 0, none⟩)), (3, .slice A63 ((t50 ++ ([p0_1] : List Int)).length) c64), (46, .bool t71)] (by kernel_rfl) ?_
    refine RegI.done (by kernel_rfl) ?_
    obtain ⟨j89, hJ90, h⟩ := of_let h
    have hj91 : ∀ (t86 : List Int) (A84 : Option Addr) (c85 : Nat) (w88 : World), j89 t86 = some r → Holds M0 w0 w88 [box b2 30 [.int .i64 p0_0, .int .u8 p0_1, .int .u8 p0_2, .int .u16 p0_3, .int .i64 p0_4, .int .i64 p0_5], own (Rp.int .u8) 5 (.slice A84 t86.length c85) t86] → RunsI F21 [.c 53] [(1, .pointer (some ⟨b2, 0, none⟩)), (3, .slice A84 t86.length c85)] w88 (charabancref08_Bytes_21.post M0 w0 r) := by
      intro t86 A84 c85 w88 h h87
      rw [hJ90] at h
      clear hJ90
      dsimp only at h
      refine RunsI.go 1 [.c 54, .c 55] (by kernel_rfl) ?_
      refine RunsI.region (by kernel_rfl) ?_
      refine RegI.pure 1 [1, 3, 52] [(1, .pointer (some ⟨b2, 0, none⟩)), (3, .slice A84 t86.length c85), (52, .pointer (some ⟨b2, 0, none⟩))] (by kernel_rfl) ?_
      refine RegI.op (by kernel_rfl) (OpE.loadBox 53 0 3 b2 0 (.int .i64 p0_0) h87 (by kernel_rfl) (by kernel_rfl) rfl (by kernel_rfl) ?_)
      refine RegI.pure 1 [1, 3, 53, 54] [(1, .pointer (some ⟨b2, 0, none⟩)), (3, .slice A84 t86.length c85), (53, .int .i64 p0_0), (54, .pointer (some ⟨b2, 1, none⟩))] (by kernel_rfl) ?_
      refine RegI.op (by kernel_rfl) (OpE.loadBox 55 0 5 b2 1 (.int .u8 p0_1) h87 (by kernel_rfl) (by kernel_rfl) rfl (by kernel_rfl) ?_)
      obtain ⟨t96, hg95, h⟩ := of_bind h
      refine RegI.op (by kernel_rfl) (OpE.call 56 (by kernel_rfl) 12 #[.int .i64 p0_0, .int .u8 p0_1] (by kernel_rfl) ((charabancref08_Size_12_ok K _ w88  p0_0 p0_1 h87.old' hg95).mono ?_))
      rintro _ w92 ⟨rfl, hb93⟩
      refine ⟨_, rfl, ?_⟩
      have h94 := h87.call hb93
      refine RegI.pure 1 [1, 3, 5] [(1, .pointer (some ⟨b2, 0, none⟩)), (3, .slice A84 t86.length c85), (5, .int .i64 t96)] (by kernel_rfl) ?_
      refine RegI.done (by kernel_rfl) ?_
      refine RunsI.go 2 [.c 57, .c 58, .c 61] (by kernel_rfl) ?_
      refine RunsI.region (by kernel_rfl) ?_
      refine RegI.pure 2 [1, 3, 5, 58] [(1, .pointer (some ⟨b2, 0, none⟩)), (3, .slice A84 t86.length c85), (5, .int .i64 t96), (58, .bool (decide (t96 > 0)))] (by kernel_rfl) ?_
      refine RegI.done (by kernel_rfl) ?_
      obtain ⟨j114, hJ115, h⟩ := of_let h
      have hj116 : ∀ (t111 : List Int) (A109 : Option Addr) (c110 : Nat) (w113 : World), j114 t111 = some r → Holds M0 w0 w113 [box b2 30 [.int .i64 p0_0, .int .u8 p0_1, .int .u8 p0_2, .int .u16 p0_3, .int .i64 p0_4, .int .i64 p0_5], own (Rp.int .u8) 5 (.slice A109 t111.length c110) t111] → RunsI F21 [.c 61] [(1, .pointer (some ⟨b2, 0, none⟩)), (3, .slice A109 t111.length c110), (5, .int .i64 t96)] w113 (charabancref08_Bytes_21.post M0 w0 r) := by
        intro t111 A109 c110 w113 h h112
        rw [hJ115] at h
        clear hJ115
        dsimp only at h
        refine RunsI.go 2 [.c 63, .c 64, .c 67] (by kernel_rfl) ?_
        refine RunsI.region (by kernel_rfl) ?_
        refine RegI.pure 2 [1, 3, 67] [(1, .pointer (some ⟨b2, 0, none⟩)), (3, .slice A109 t111.length c110), (67, .bool (decide (t96 > 1)))] (by kernel_rfl) ?_
        refine RegI.done (by kernel_rfl) ?_
        rcases of_cond h with ⟨hc117, h⟩ | ⟨hc117, h⟩
        · skip
          refine RunsI.fix 67 true hc117 (by kernel_rfl) (by kernel_rfl) ?_
          refine RunsI.cond true 65 (by kernel_rfl) ?_
          refine RunsI.region (by kernel_rfl) ?_
          refine RegI.pure 2 [68, 69] [(68, .slice A109 t111.length c110), (69, .pointer (some ⟨b2, 3, none⟩))] (by kernel_rfl) ?_
          refine RegI.op (by kernel_rfl) (OpE.loadBox 70 0 28 b2 3 (.int .u16 p0_3) h112 (by kernel_rfl) (by kernel_rfl) rfl (by kernel_rfl) ?_)
          refine RegI.pure 2 [68, 72] [(68, .slice A109 t111.length c110), (72, .int .u8 (IntKind.wrap .u8 (IntKind.wrap .u16 (Int.tdiv p0_3 256))))] (by kernel_rfl) ?_
          refine RegI.op (by kernel_rfl) (OpE.lit 73 5 [.int .u8 (IntKind.wrap .u8 (IntKind.wrap .u16 (Int.tdiv p0_3 256)))] 1 h112 (by kernel_rfl) (by kernel_rfl) ?_)
          intro w118 b119 h120 hb121 hn122
          obtain ⟨hc123, h⟩ := of_cond0 h
          refine RegI.op (by kernel_rfl) (OpE.appendBox 74 1 2 27 5 1 ([(IntKind.wrap .u8 (IntKind.wrap .u16 (Int.tdiv p0_3 256)))] : List Int) 0 h120 (by kernel_rfl) (by kernel_rfl) (by kernel_rfl) rfl rfl rfl (cells_int _ _ _ _) hc123 ?_)
          intro w124 A125 c126 h127 hk128
          refine RegI.pure 1 [3] [(3, .slice A125 ((t111 ++ ([(IntKind.wrap .u8 (IntKind.wrap .u16 (Int.tdiv p0_3 256)))] : List Int)).length) c126)] (by kernel_rfl) ?_
          refine RegI.done (by kernel_rfl) ?_
          refine RunsI.go 1 [.c 68, .c 69] (by kernel_rfl) ?_
          refine RunsI.region (by kernel_rfl) ?_
          refine RegI.pure 2 [2] [(2, .slice A125 ((t111 ++ ([(IntKind.wrap .u8 (IntKind.wrap .u16 (Int.tdiv p0_3 256)))] : List Int)).length) c126)] (by kernel_rfl) ?_
          refine RegI.done (by kernel_rfl) ?_
          refine RunsI.ret (.slice A125 ((t111 ++ ([(IntKind.wrap .u8 (IntKind.wrap .u16 (Int.tdiv p0_3 256)))] : List Int)).length) c126) (by kernel_rfl) (by kernel_rfl) ?_
          obtain rfl := Option.some.inj h
          exact ⟨A125, c126, rfl, h127.pick [1] (by decide)⟩
        · skip
          refine RunsI.fix 67 false hc117 (by kernel_rfl) (by kernel_rfl) ?_
          refine RunsI.cond false 66 (by kernel_rfl) ?_
          refine RunsI.go 1 [.c 67] (by kernel_rfl) ?_
          refine RunsI.go 1 [.c 68, .c 69] (by kernel_rfl) ?_
          refine RunsI.region (by kernel_rfl) ?_
          refine RegI.pure 2 [2] [(2, .slice A109 t111.length c110)] (by kernel_rfl) ?_
          refine RegI.done (by kernel_rfl) ?_
          refine RunsI.ret (.slice A109 t111.length c110) (by kernel_rfl) (by kernel_rfl) ?_
          obtain rfl := Option.some.inj h
          exact ⟨A109, c110, rfl, h112.pick [1] (by decide)⟩
      clear hJ115
      rcases of_cond h with ⟨hc97, h⟩ | ⟨hc97, h⟩
      · skip
        refine RunsI.fix 58 true hc97 (by kernel_rfl) (by kernel_rfl) ?_
        refine RunsI.cond true 59 (by kernel_rfl) ?_
        refine RunsI.region (by kernel_rfl) ?_
        refine RegI.pure 2 [1, 5, 59, 60] [(1, .pointer (some ⟨b2, 0, none⟩)), (5, .int .i64 t96), (59, .slice A84 t86.length c85), (60, .pointer (some ⟨b2, 3, none⟩))] (by kernel_rfl) ?_
        refine RegI.op (by kernel_rfl) (OpE.loadBox 61 0 28 b2 3 (.int .u16 p0_3) h94 (by kernel_rfl) (by kernel_rfl) rfl (by kernel_rfl) ?_)
        refine RegI.pure 2 [1, 5, 59, 63] [(1, .pointer (some ⟨b2, 0, none⟩)), (5, .int .i64 t96), (59, .slice A84 t86.length c85), (63, .int .u8 (IntKind.wrap .u8 (Int.tmod p0_3 256)))] (by kernel_rfl) ?_
        refine RegI.op (by kernel_rfl) (OpE.lit 64 5 [.int .u8 (IntKind.wrap .u8 (Int.tmod p0_3 256))] 1 h94 (by kernel_rfl) (by kernel_rfl) ?_)
        intro w98 b99 h100 hb101 hn102
        obtain ⟨hc103, h⟩ := of_cond0 h
        refine RegI.op (by kernel_rfl) (OpE.appendBox 65 1 2 27 5 1 ([(IntKind.wrap .u8 (Int.tmod p0_3 256))] : List Int) 0 h100 (by kernel_rfl) (by kernel_rfl) (by kernel_rfl) rfl rfl rfl (cells_int _ _ _ _) hc103 ?_)
        intro w104 A105 c106 h107 hk108
        refine RegI.pure 1 [1, 3, 5] [(1, .pointer (some ⟨b2, 0, none⟩)), (3, .slice A105 ((t86 ++ ([(IntKind.wrap .u8 (Int.tmod p0_3 256))] : List Int)).length) c106), (5, .int .i64 t96)] (by kernel_rfl) ?_
        refine RegI.done (by kernel_rfl) ?_
        refine RunsI.only [1, 3, 5] [(1, .pointer (some ⟨b2, 0, none⟩)), (3, .slice A105 ((t86 ++ ([(IntKind.wrap .u8 (Int.tmod p0_3 256))] : List Int)).length) c106), (5, .int .i64 t96)] (by kernel_rfl) (by kernel_rfl) ?_
        exact hj116 (t86 ++ ([(IntKind.wrap .u8 (Int.tmod p0_3 256))] : List Int)) A105 c106 w104 h (h107.pick [0, 1] (by decide))
      · skip
        refine RunsI.fix 58 false hc97 (by kernel_rfl) (by kernel_rfl) ?_
        refine RunsI.cond false 60 (by kernel_rfl) ?_
        refine RunsI.go 1 [.c 61] (by kernel_rfl) ?_
        refine RunsI.only [1, 3, 5] [(1, .pointer (some ⟨b2, 0, none⟩)), (3, .slice A84 t86.length c85), (5, .int .i64 t96)] (by kernel_rfl) (by kernel_rfl) ?_
        exact hj116 t86 A84 c85 w92 h (h94.pick [0, 1] (by decide))
    clear hJ90
    rcases of_cond h with ⟨hc72, h⟩ | ⟨hc72, h⟩
    · skip
      refine RunsI.fix 46 true hc72 (by kernel_rfl) (by kernel_rfl) ?_
      refine RunsI.cond true 51 (by kernel_rfl) ?_
      refine RunsI.region (by kernel_rfl) ?_
      refine RegI.pure 2 [1, 47, 48] [(1, .pointer (some ⟨b2, 0, none⟩)), (47, .slice A63 ((t50 ++ ([p0_1] : List Int)).length) c64), (48, .pointer (some ⟨b2, 2, none⟩))] (by kernel_rfl) ?_
      refine RegI.op (by kernel_rfl) (OpE.loadBox 49 0 5 b2 2 (.int .u8 p0_2) h69 (by kernel_rfl) (by kernel_rfl) rfl (by kernel_rfl) ?_)
      refine RegI.op (by kernel_rfl) (OpE.lit 50 5 [.int .u8 p0_2] 1 h69 (by kernel_rfl) (by kernel_rfl) ?_)
      intro w73 b74 h75 hb76 hn77
      obtain ⟨hc78, h⟩ := of_cond0 h
      refine RegI.op (by kernel_rfl) (OpE.appendBox 51 1 3 27 5 1 ([p0_2] : List Int) 0 h75 (by kernel_rfl) (by kernel_rfl) (by kernel_rfl) rfl rfl rfl (cells_int _ _ _ _) hc78 ?_)
      intro w79 A80 c81 h82 hk83
      refine RegI.pure 1 [1, 3] [(1, .pointer (some ⟨b2, 0, none⟩)), (3, .slice A80 (((t50 ++ ([p0_1] : List Int)) ++ ([p0_2] : List Int)).length) c81)] (by kernel_rfl) ?_
      refine RegI.done (by kernel_rfl) ?_
      refine RunsI.only [1, 3] [(1, .pointer (some ⟨b2, 0, none⟩)), (3, .slice A80 (((t50 ++ ([p0_1] : List Int)) ++ ([p0_2] : List Int)).length) c81)] (by kernel_rfl) (by kernel_rfl) ?_
      exact hj91 ((t50 ++ ([p0_1] : List Int)) ++ ([p0_2] : List Int)) A80 c81 w79 h (h82.pick [0, 1] (by decide))
    · skip
      refine RunsI.fix 46 false hc72 (by kernel_rfl) (by kernel_rfl) ?_
      refine RunsI.cond false 52 (by kernel_rfl) ?_
      refine RunsI.go 1 [.c 53] (by kernel_rfl) ?_
      refine RunsI.only [1, 3] [(1, .pointer (some ⟨b2, 0, none⟩)), (3, .slice A63 ((t50 ++ ([p0_1] : List Int)).length) c64)] (by kernel_rfl) (by kernel_rfl) ?_
      exact hj91 (t50 ++ ([p0_1] : List Int)) A63 c64 w67 h (h69.pick [0, 1] (by decide))
  clear hJ54
  rcases of_cond h with ⟨hc6, h⟩ | ⟨hc6, h⟩
  · skip
    refine RunsI.fix 8 true hc6 (by kernel_rfl) (by kernel_rfl) ?_
    refine RunsI.cond true 11 (by kernel_rfl) ?_
    refine RunsI.go 1 [.blk 0, .c 43] (by kernel_rfl) ?_
    have h43 := h3.addOwnNil (Rp.int .u8) 5
    refine RunsI.only [1, 3] [(1, .pointer (some ⟨b2, 0, none⟩)), (3, .slice none (([] : List Int).length) 0)] (by kernel_rfl) (by kernel_rfl) ?_
    exact hj55 ([] : List Int) none 0 w1 h (h43.pick [0, 1] (by decide))
  · skip
    refine RunsI.fix 8 false hc6 (by kernel_rfl) (by kernel_rfl) ?_
    refine RunsI.cond false 12 (by kernel_rfl) ?_
    refine RunsI.go 1 [.c 13, .c 14, .blk 0, .c 43] (by kernel_rfl) ?_
    refine RunsI.region (by kernel_rfl) ?_
    refine RegI.pure 2 [1, 7, 10] [(1, .pointer (some ⟨b2, 0, none⟩)), (7, .int .i64 p0_0), (10, .bool (p0_0 == 1))] (by kernel_rfl) ?_
    refine RegI.done (by kernel_rfl) ?_
    rcases of_cond h with ⟨hc7, h⟩ | ⟨hc7, h⟩
    · skip
      refine RunsI.fix 10 true hc7 (by kernel_rfl) (by kernel_rfl) ?_
      refine RunsI.cond true 15 (by kernel_rfl) ?_
      refine RunsI.region (by kernel_rfl) ?_
      refine RegI.op (by kernel_rfl) (OpE.lit 12 5 [.int .u8 203] 1 h3 (by kernel_rfl) (by kernel_rfl) ?_)
      intro w8 b9 h10 hb11 hn12
      refine RegI.pure 1 [1, 3] [(1, .pointer (some ⟨b2, 0, none⟩)), (3, .slice (some ⟨b9, 0, none⟩) (([203] : List Int).length) 1)] (by kernel_rfl) ?_
      refine RegI.done (by kernel_rfl) ?_
      have h44 := h10.boxOwn 1 rfl (Rp.int .u8) ([203] : List Int) (cells_int _ _ _ _) (Nat.le_of_ble_eq_true (by kernel_rfl))
      refine RunsI.only [1, 3] [(1, .pointer (some ⟨b2, 0, none⟩)), (3, .slice (some ⟨b9, 0, none⟩) (([203] : List Int).length) 1)] (by kernel_rfl) (by kernel_rfl) ?_
      exact hj55 ([203] : List Int) (some ⟨b9, 0, none⟩) 1 w8 h (h44.pick [0, 1] (by decide))
    · skip
      refine RunsI.fix 10 false hc7 (by kernel_rfl) (by kernel_rfl) ?_
      refine RunsI.cond false 16 (by kernel_rfl) ?_
      refine RunsI.go 1 [.c 17, .c 18, .blk 0, .c 43] (by kernel_rfl) ?_
      refine RunsI.region (by kernel_rfl) ?_
      refine RegI.pure 2 [1, 7, 13] [(1, .pointer (some ⟨b2, 0, none⟩)), (7, .int .i64 p0_0), (13, .bool (p0_0 == 2))] (by kernel_rfl) ?_
      refine RegI.done (by kernel_rfl) ?_
      rcases of_cond h with ⟨hc13, h⟩ | ⟨hc13, h⟩
      · skip
        refine RunsI.fix 13 true hc13 (by kernel_rfl) (by kernel_rfl) ?_
        refine RunsI.cond true 19 (by kernel_rfl) ?_
        refine RunsI.region (by kernel_rfl) ?_
        refine RegI.op (by kernel_rfl) (OpE.lit 15 5 [.int .u8 237] 1 h3 (by kernel_rfl) (by kernel_rfl) ?_)
        intro w14 b15 h16 hb17 hn18
        refine RegI.pure 1 [1, 3] [(1, .pointer (some ⟨b2, 0, none⟩)), (3, .slice (some ⟨b15, 0, none⟩) (([237] : List Int).length) 1)] (by kernel_rfl) ?_
        refine RegI.done (by kernel_rfl) ?_
        have h45 := h16.boxOwn 1 rfl (Rp.int .u8) ([237] : List Int) (cells_int _ _ _ _) (Nat.le_of_ble_eq_true (by kernel_rfl))
        refine RunsI.only [1, 3] [(1, .pointer (some ⟨b2, 0, none⟩)), (3, .slice (some ⟨b15, 0, none⟩) (([237] : List Int).length) 1)] (by kernel_rfl) (by kernel_rfl) ?_
        exact hj55 ([237] : List Int) (some ⟨b15, 0, none⟩) 1 w14 h (h45.pick [0, 1] (by decide))
      · skip
        refine RunsI.fix 13 false hc13 (by kernel_rfl) (by kernel_rfl) ?_
        refine RunsI.cond false 20 (by kernel_rfl) ?_
        refine RunsI.go 1 [.c 21, .c 22, .blk 0, .c 43] (by kernel_rfl) ?_
        refine RunsI.region (by kernel_rfl) ?_
        refine RegI.pure 2 [1, 7, 16] [(1, .pointer (some ⟨b2, 0, none⟩)), (7, .int .i64 p0_0), (16, .bool (p0_0 == 3))] (by kernel_rfl) ?_
        refine RegI.done (by kernel_rfl) ?_
        rcases of_cond h with ⟨hc19, h⟩ | ⟨hc19, h⟩
        · skip
          refine RunsI.fix 16 true hc19 (by kernel_rfl) (by kernel_rfl) ?_
          refine RunsI.cond true 23 (by kernel_rfl) ?_
          refine RunsI.region (by kernel_rfl) ?_
          refine RegI.op (by kernel_rfl) (OpE.lit 18 5 [.int .u8 221] 1 h3 (by kernel_rfl) (by kernel_rfl) ?_)
          intro w20 b21 h22 hb23 hn24
          refine RegI.pure 1 [1, 3] [(1, .pointer (some ⟨b2, 0, none⟩)), (3, .slice (some ⟨b21, 0, none⟩) (([221] : List Int).length) 1)] (by kernel_rfl) ?_
          refine RegI.done (by kernel_rfl) ?_
          have h46 := h22.boxOwn 1 rfl (Rp.int .u8) ([221] : List Int) (cells_int _ _ _ _) (Nat.le_of_ble_eq_true (by kernel_rfl))
          refine RunsI.only [1, 3] [(1, .pointer (some ⟨b2, 0, none⟩)), (3, .slice (some ⟨b21, 0, none⟩) (([221] : List Int).length) 1)] (by kernel_rfl) (by kernel_rfl) ?_
          exact hj55 ([221] : List Int) (some ⟨b21, 0, none⟩) 1 w20 h (h46.pick [0, 1] (by decide))
        · skip
          refine RunsI.fix 16 false hc19 (by kernel_rfl) (by kernel_rfl) ?_
          refine RunsI.cond false 24 (by kernel_rfl) ?_
          refine RunsI.go 1 [.c 25, .c 26, .blk 0, .c 43] (by kernel_rfl) ?_
          refine RunsI.region (by kernel_rfl) ?_
          refine RegI.pure 2 [1, 7, 19] [(1, .pointer (some ⟨b2, 0, none⟩)), (7, .int .i64 p0_0), (19, .bool (p0_0 == 4))] (by kernel_rfl) ?_
          refine RegI.done (by kernel_rfl) ?_
          rcases of_cond h with ⟨hc25, h⟩ | ⟨hc25, h⟩
          · skip
            refine RunsI.fix 19 true hc25 (by kernel_rfl) (by kernel_rfl) ?_
            refine RunsI.cond true 27 (by kernel_rfl) ?_
            refine RunsI.region (by kernel_rfl) ?_
            refine RegI.op (by kernel_rfl) (OpE.lit 21 5 [.int .u8 253] 1 h3 (by kernel_rfl) (by kernel_rfl) ?_)
            intro w26 b27 h28 hb29 hn30
            refine RegI.pure 1 [1, 3] [(1, .pointer (some ⟨b2, 0, none⟩)), (3, .slice (some ⟨b27, 0, none⟩) (([253] : List Int).length) 1)] (by kernel_rfl) ?_
            refine RegI.done (by kernel_rfl) ?_
            have h47 := h28.boxOwn 1 rfl (Rp.int .u8) ([253] : List Int) (cells_int _ _ _ _) (Nat.le_of_ble_eq_true (by kernel_rfl))
            refine RunsI.only [1, 3] [(1, .pointer (some ⟨b2, 0, none⟩)), (3, .slice (some ⟨b27, 0, none⟩) (([253] : List Int).length) 1)] (by kernel_rfl) (by kernel_rfl) ?_
            exact hj55 ([253] : List Int) (some ⟨b27, 0, none⟩) 1 w26 h (h47.pick [0, 1] (by decide))
          · skip
            refine RunsI.fix 19 false hc25 (by kernel_rfl) (by kernel_rfl) ?_
            refine RunsI.cond false 28 (by kernel_rfl) ?_
            refine RunsI.go 1 [.c 29, .c 30, .blk 0, .c 43] (by kernel_rfl) ?_
            refine RunsI.region (by kernel_rfl) ?_
            refine RegI.pure 2 [1, 7, 22] [(1, .pointer (some ⟨b2, 0, none⟩)), (7, .int .i64 p0_0), (22, .bool (p0_0 == 5))] (by kernel_rfl) ?_
            refine RegI.done (by kernel_rfl) ?_
            rcases of_cond h with ⟨hc31, h⟩ | ⟨hc31, h⟩
            · skip
              refine RunsI.fix 22 true hc31 (by kernel_rfl) (by kernel_rfl) ?_
              refine RunsI.cond true 31 (by kernel_rfl) ?_
              refine RunsI.go 1 [.c 32, .c 33, .blk 0, .c 43] (by kernel_rfl) ?_
              refine RunsI.region (by kernel_rfl) ?_
              refine RegI.pure 1 [1, 24] [(1, .pointer (some ⟨b2, 0, none⟩)), (24, .pointer (some ⟨b2, 2, none⟩))] (by kernel_rfl) ?_
              refine RegI.op (by kernel_rfl) (OpE.loadBox 25 0 5 b2 2 (.int .u8 p0_2) h3 (by kernel_rfl) (by kernel_rfl) rfl (by kernel_rfl) ?_)
              refine RegI.pure 1 [25, 26] [(25, .int .u8 p0_2), (26, .pointer (some ⟨b2, 1, none⟩))] (by kernel_rfl) ?_
              refine RegI.op (by kernel_rfl) (OpE.loadBox 27 0 5 b2 1 (.int .u8 p0_1) h3 (by kernel_rfl) (by kernel_rfl) rfl (by kernel_rfl) ?_)
              refine RegI.op (by kernel_rfl) (OpE.lit 28 5 [.int .u8 221, .int .u8 203, .int .u8 p0_2, .int .u8 p0_1] 4 h3 (by kernel_rfl) (by kernel_rfl) ?_)
              intro w32 b33 h34 hb35 hn36
              refine RegI.pure 1 [2] [(2, .slice (some ⟨b33, 0, none⟩) (([221, 203, p0_2, p0_1] : List Int).length) 4)] (by kernel_rfl) ?_
              refine RegI.done (by kernel_rfl) ?_
              refine RunsI.ret (.slice (some ⟨b33, 0, none⟩) (([221, 203, p0_2, p0_1] : List Int).length) 4) (by kernel_rfl) (by kernel_rfl) ?_
              have h129 := h34.boxOwn 1 rfl (Rp.int .u8) ([221, 203, p0_2, p0_1] : List Int) (cells_int _ _ _ _) (Nat.le_of_ble_eq_true (by kernel_rfl))
              obtain rfl := Option.some.inj h
              exact ⟨(some ⟨b33, 0, none⟩), 4, rfl, h129.pick [1] (by decide)⟩
            · skip
              refine RunsI.fix 22 false hc31 (by kernel_rfl) (by kernel_rfl) ?_
              refine RunsI.cond false 34 (by kernel_rfl) ?_
              refine RunsI.go 1 [.c 35, .c 36, .blk 0, .c 43] (by kernel_rfl) ?_
              refine RunsI.region (by kernel_rfl) ?_
              refine RegI.pure 2 [1, 29] [(1, .pointer (some ⟨b2, 0, none⟩)), (29, .bool (p0_0 == 6))] (by kernel_rfl) ?_
              refine RegI.done (by kernel_rfl) ?_
              rcases of_cond h with ⟨hc37, h⟩ | ⟨hc37, h⟩
              · skip
                refine RunsI.fix 29 true hc37 (by kernel_rfl) (by kernel_rfl) ?_
                refine RunsI.cond true 37 (by kernel_rfl) ?_
                refine RunsI.go 1 [.c 38, .c 39, .blk 0, .c 43] (by kernel_rfl) ?_
                refine RunsI.region (by kernel_rfl) ?_
                refine RegI.pure 1 [1, 31] [(1, .pointer (some ⟨b2, 0, none⟩)), (31, .pointer (some ⟨b2, 2, none⟩))] (by kernel_rfl) ?_
                refine RegI.op (by kernel_rfl) (OpE.loadBox 32 0 5 b2 2 (.int .u8 p0_2) h3 (by kernel_rfl) (by kernel_rfl) rfl (by kernel_rfl) ?_)
                refine RegI.pure 1 [32, 33] [(32, .int .u8 p0_2), (33, .pointer (some ⟨b2, 1, none⟩))] (by kernel_rfl) ?_
                refine RegI.op (by kernel_rfl) (OpE.loadBox 34 0 5 b2 1 (.int .u8 p0_1) h3 (by kernel_rfl) (by kernel_rfl) rfl (by kernel_rfl) ?_)
                refine RegI.op (by kernel_rfl) (OpE.lit 35 5 [.int .u8 253, .int .u8 203, .int .u8 p0_2, .int .u8 p0_1] 4 h3 (by kernel_rfl) (by kernel_rfl) ?_)
                intro w38 b39 h40 hb41 hn42
                refine RegI.pure 1 [2] [(2, .slice (some ⟨b39, 0, none⟩) (([253, 203, p0_2, p0_1] : List Int).length) 4)] (by kernel_rfl) ?_
                refine RegI.done (by kernel_rfl) ?_
                refine RunsI.ret (.slice (some ⟨b39, 0, none⟩) (([253, 203, p0_2, p0_1] : List Int).length) 4) (by kernel_rfl) (by kernel_rfl) ?_
                have h130 := h40.boxOwn 1 rfl (Rp.int .u8) ([253, 203, p0_2, p0_1] : List Int) (cells_int _ _ _ _) (Nat.le_of_ble_eq_true (by kernel_rfl))
                obtain rfl := Option.some.inj h
                exact ⟨(some ⟨b39, 0, none⟩), 4, rfl, h130.pick [1] (by decide)⟩
              · skip
                refine RunsI.fix 29 false hc37 (by kernel_rfl) (by kernel_rfl) ?_
                refine RunsI.cond false 40 (by kernel_rfl) ?_
                refine RunsI.go 1 [.c 41, .c 42, .blk 0, .c 43] (by kernel_rfl) ?_
                refine RunsI.region (by kernel_rfl) ?_
                refine RegI.pure 1 [2] [(2, .slice none 0 0)] (by kernel_rfl) ?_
                refine RegI.done (by kernel_rfl) ?_
                refine RunsI.ret (.slice none 0 0) (by kernel_rfl) (by kernel_rfl) ?_
                have h131 := h3.addOwnNil (Rp.int .u8) 5
                obtain rfl := Option.some.inj h
                exact ⟨none, 0, rfl, h131.pick [1] (by decide)⟩
end

/-! ### charabanc/charabancref08.Bare (function 22) -/
section
def charabancref08_Bare_22.post (M0 : Nat → Prop) (w0 : World) (r : Bool) : Ending → World → Prop := fun e w => e = .returned (.bool r) ∧ Below w0.heap.size w0 w
def charabancref08_Bare_22.f (K : Nat) (p0_0 : Int) (p0_1 : Int) (p0_2 : Int) (p0_3 : Int) (p0_4 : Int) (p0_5 : Int) : Option Bool := Let (fun (t8 : Bool) => cond t8 (cond (p0_1 != 203) (cond (p0_1 != 237) (cond (p0_1 != 221) (some (p0_1 != 253)) (some false)) (some false)) (some false)) (cond (decide (p0_0 ≥ 0)) (some (decide (p0_0 ≤ 6))) (some false))) (fun j11 => cond (p0_0 == 0) (j11 true) (cond (p0_0 == 3) (j11 true) (j11 (p0_0 == 4))))
set_option maxRecDepth 100000 in
theorem charabancref08_Bare_22_ok (K : Nat) (M0 : Nat → Prop) (w0 : World) (p0_0 : Int) (p0_1 : Int) (p0_2 : Int) (p0_3 : Int) (p0_4 : Int) (p0_5 : Int) (ho : ∀ b, M0 b → b < w0.heap.size) {r : Bool} (h : charabancref08_Bare_22.f K p0_0 p0_1 p0_2 p0_3 p0_4 p0_5 = some r) :
    Calls Try.prog 22 #[.agg #[.int .i64 p0_0, .int .u8 p0_1, .int .u8 p0_2, .int .u16 p0_3, .int .i64 p0_4, .int .i64 p0_5]] w0 (charabancref08_Bare_22.post M0 w0 r) := by
  unfold charabancref08_Bare_22.f at h
  have h0 : Holds M0 w0 w0 [] := Holds.start ho
  have h0 : Holds M0 w0 w0 [] := h0
  refine calls_of F22 rfl [.agg #[.int .i64 p0_0, .int .u8 p0_1, .int .u8 p0_2, .int .u16 p0_3, .int .i64 p0_4, .int .i64 p0_5]] (by kernel_rfl) ?_
  refine RunsI.go 1 [.c 1, .c 2] (by kernel_rfl) ?_
  refine RunsI.region (by kernel_rfl) ?_
  refine RegI.op (by kernel_rfl) (OpE.box 1 30 [.int .i64 p0_0, .int .u8 p0_1, .int .u8 p0_2, .int .u16 p0_3, .int .i64 p0_4, .int .i64 p0_5] h0 (by kernel_rfl) (by kernel_rfl) ?_)
  intro w1 b2 h3 hb4 hn5
  refine RegI.pure 1 [1] [(1, .pointer (some ⟨b2, 0, none⟩))] (by kernel_rfl) ?_
  refine RegI.done (by kernel_rfl) ?_
  refine RunsI.go 2 [.c 4, .c 5, .c 10] (by kernel_rfl) ?_
  refine RunsI.region (by kernel_rfl) ?_
  refine RegI.pure 1 [1, 3] [(1, .pointer (some ⟨b2, 0, none⟩)), (3, .pointer (some ⟨b2, 0, none⟩))] (by kernel_rfl) ?_
  refine RegI.op (by kernel_rfl) (OpE.loadBox 4 0 3 b2 0 (.int .i64 p0_0) h3 (by kernel_rfl) (by kernel_rfl) rfl (by kernel_rfl) ?_)
  refine RegI.pure 2 [1, 6] [(1, .pointer (some ⟨b2, 0, none⟩)), (6, .bool (p0_0 == 0))] (by kernel_rfl) ?_
  obtain ⟨j11, hJ12, h⟩ := of_let h
  have hj13 : ∀ (t8 : Bool) (w10 : World), j11 t8 = some r → Holds M0 w0 w10 [box b2 30 [.int .i64 p0_0, .int .u8 p0_1, .int .u8 p0_2, .int .u16 p0_3, .int .i64 p0_4, .int .i64 p0_5]] → RegI F22 4 [.c 5, .c 10] 13 [(1, .pointer (some ⟨b2, 0, none⟩)), (15, .bool t8)] w10 (charabancref08_Bare_22.post M0 w0 r) := by
    intro t8 w10 h h9
    rw [hJ12] at h
    clear hJ12
    dsimp only at h
    refine RegI.done (by kernel_rfl) ?_
    rcases of_cond h with ⟨hc14, h⟩ | ⟨hc14, h⟩
    · skip
      refine RunsI.fix 15 true hc14 (by kernel_rfl) (by kernel_rfl) ?_
      refine RunsI.cond true 6 (by kernel_rfl) ?_
      refine RunsI.go 1 [.c 7, .c 8, .c 10] (by kernel_rfl) ?_
      refine RunsI.region (by kernel_rfl) ?_
      refine RegI.pure 1 [1, 16] [(1, .pointer (some ⟨b2, 0, none⟩)), (16, .pointer (some ⟨b2, 1, none⟩))] (by kernel_rfl) ?_
      refine RegI.op (by kernel_rfl) (OpE.loadBox 17 0 5 b2 1 (.int .u8 p0_1) h9 (by kernel_rfl) (by kernel_rfl) rfl (by kernel_rfl) ?_)
      refine RegI.pure 2 [1, 19] [(1, .pointer (some ⟨b2, 0, none⟩)), (19, .bool (p0_1 != 203))] (by kernel_rfl) ?_
      rcases of_cond h with ⟨hc15, h⟩ | ⟨hc15, h⟩
      · skip
        refine RegI.fix 19 true hc15 (by kernel_rfl) (by kernel_rfl) ?_
        refine RegI.pure 1 [1, 19, 20] [(1, .pointer (some ⟨b2, 0, none⟩)), (19, .bool true), (20, .pointer (some ⟨b2, 1, none⟩))] (by kernel_rfl) ?_
        refine RegI.op (by kernel_rfl) (OpE.loadBox 21 0 5 b2 1 (.int .u8 p0_1) h9 (by kernel_rfl) (by kernel_rfl) rfl (by kernel_rfl) ?_)
        refine RegI.pure 3 [1, 24] [(1, .pointer (some ⟨b2, 0, none⟩)), (24, .bool (p0_1 != 237))] (by kernel_rfl) ?_
        rcases of_cond h with ⟨hc16, h⟩ | ⟨hc16, h⟩
        · skip
          refine RegI.fix 24 true hc16 (by kernel_rfl) (by kernel_rfl) ?_
          refine RegI.pure 1 [1, 24, 25] [(1, .pointer (some ⟨b2, 0, none⟩)), (24, .bool true), (25, .pointer (some ⟨b2, 1, none⟩))] (by kernel_rfl) ?_
          refine RegI.op (by kernel_rfl) (OpE.loadBox 26 0 5 b2 1 (.int .u8 p0_1) h9 (by kernel_rfl) (by kernel_rfl) rfl (by kernel_rfl) ?_)
          refine RegI.pure 3 [1, 29] [(1, .pointer (some ⟨b2, 0, none⟩)), (29, .bool (p0_1 != 221))] (by kernel_rfl) ?_
          rcases of_cond h with ⟨hc17, h⟩ | ⟨hc17, h⟩
          · skip
            refine RegI.fix 29 true hc17 (by kernel_rfl) (by kernel_rfl) ?_
            refine RegI.pure 1 [29, 30] [(29, .bool true), (30, .pointer (some ⟨b2, 1, none⟩))] (by kernel_rfl) ?_
            refine RegI.op (by kernel_rfl) (OpE.loadBox 31 0 5 b2 1 (.int .u8 p0_1) h9 (by kernel_rfl) (by kernel_rfl) rfl (by kernel_rfl) ?_)
            refine RegI.pure 3 [2] [(2, .bool (p0_1 != 253))] (by kernel_rfl) ?_
            refine RegI.done (by kernel_rfl) ?_
            refine RunsI.ret (.bool (p0_1 != 253)) (by kernel_rfl) (by kernel_rfl) ?_
            obtain rfl := Option.some.inj h
            exact ⟨rfl, h9.below⟩
          · skip
            refine RegI.fix 29 false hc17 (by kernel_rfl) (by kernel_rfl) ?_
            refine RegI.pure 5 [2] [(2, .bool false)] (by kernel_rfl) ?_
            refine RegI.done (by kernel_rfl) ?_
            refine RunsI.ret (.bool false) (by kernel_rfl) (by kernel_rfl) ?_
            obtain rfl := Option.some.inj h
            exact ⟨rfl, h9.below⟩
        · skip
          refine RegI.fix 24 false hc16 (by kernel_rfl) (by kernel_rfl) ?_
          refine RegI.pure 10 [2] [(2, .bool false)] (by kernel_rfl) ?_
          refine RegI.done (by kernel_rfl) ?_
          refine RunsI.ret (.bool false) (by kernel_rfl) (by kernel_rfl) ?_
          obtain rfl := Option.some.inj h
          exact ⟨rfl, h9.below⟩
      · skip
        refine RegI.fix 19 false hc15 (by kernel_rfl) (by kernel_rfl) ?_
        refine RegI.pure 15 [2] [(2, .bool false)] (by kernel_rfl) ?_
        refine RegI.done (by kernel_rfl) ?_
        refine RunsI.ret (.bool false) (by kernel_rfl) (by kernel_rfl) ?_
        obtain rfl := Option.some.inj h
        exact ⟨rfl, h9.below⟩
    · skip
      refine RunsI.fix 15 false hc14 (by kernel_rfl) (by kernel_rfl) ?_
      refine RunsI.cond false 9 (by kernel_rfl) ?_
      refine RunsI.go 1 [.c 10] (by kernel_rfl) ?_
      refine RunsI.go 1 [.c 11, .c 12] (by kernel_rfl) ?_
      refine RunsI.region (by kernel_rfl) ?_
      refine RegI.pure 1 [1, 34] [(1, .pointer (some ⟨b2, 0, none⟩)), (34, .pointer (some ⟨b2, 0, none⟩))] (by kernel_rfl) ?_
      refine RegI.op (by kernel_rfl) (OpE.loadBox 35 0 3 b2 0 (.int .i64 p0_0) h9 (by kernel_rfl) (by kernel_rfl) rfl (by kernel_rfl) ?_)
      refine RegI.pure 2 [1, 37] [(1, .pointer (some ⟨b2, 0, none⟩)), (37, .bool (decide (p0_0 ≥ 0)))] (by kernel_rfl) ?_
      rcases of_cond h with ⟨hc18, h⟩ | ⟨hc18, h⟩
      · skip
        refine RegI.fix 37 true hc18 (by kernel_rfl) (by kernel_rfl) ?_
        refine RegI.pure 1 [37, 38] [(37, .bool true), (38, .pointer (some ⟨b2, 0, none⟩))] (by kernel_rfl) ?_
        refine RegI.op (by kernel_rfl) (OpE.loadBox 39 0 3 b2 0 (.int .i64 p0_0) h9 (by kernel_rfl) (by kernel_rfl) rfl (by kernel_rfl) ?_)
        refine RegI.pure 3 [2] [(2, .bool (decide (p0_0 ≤ 6)))] (by kernel_rfl) ?_
        refine RegI.done (by kernel_rfl) ?_
        refine RunsI.ret (.bool (decide (p0_0 ≤ 6))) (by kernel_rfl) (by kernel_rfl) ?_
        obtain rfl := Option.some.inj h
        exact ⟨rfl, h9.below⟩
      · skip
        refine RegI.fix 37 false hc18 (by kernel_rfl) (by kernel_rfl) ?_
        refine RegI.pure 5 [2] [(2, .bool false)] (by kernel_rfl) ?_
        refine RegI.done (by kernel_rfl) ?_
        refine RunsI.ret (.bool false) (by kernel_rfl) (by kernel_rfl) ?_
        obtain rfl := Option.some.inj h
        exact ⟨rfl, h9.below⟩
  clear hJ12
  rcases of_cond h with ⟨hc6, h⟩ | ⟨hc6, h⟩
  · skip
    refine RegI.fix 6 true hc6 (by kernel_rfl) (by kernel_rfl) ?_
    refine RegI.pure 9 [1, 15] [(1, .pointer (some ⟨b2, 0, none⟩)), (15, .bool true)] (by kernel_rfl) ?_
    refine RegI.only [1, 15] [(1, .pointer (some ⟨b2, 0, none⟩)), (15, .bool true)] (by kernel_rfl) (by kernel_rfl) ?_
    exact hj13 true w1 h (h3.pick [0] (by decide))
  · skip
    refine RegI.fix 6 false hc6 (by kernel_rfl) (by kernel_rfl) ?_
    refine RegI.pure 1 [1, 6, 7] [(1, .pointer (some ⟨b2, 0, none⟩)), (6, .bool false), (7, .pointer (some ⟨b2, 0, none⟩))] (by kernel_rfl) ?_
    refine RegI.op (by kernel_rfl) (OpE.loadBox 8 0 3 b2 0 (.int .i64 p0_0) h3 (by kernel_rfl) (by kernel_rfl) rfl (by kernel_rfl) ?_)
    refine RegI.pure 3 [1, 11] [(1, .pointer (some ⟨b2, 0, none⟩)), (11, .bool (p0_0 == 3))] (by kernel_rfl) ?_
    rcases of_cond h with ⟨hc7, h⟩ | ⟨hc7, h⟩
    · skip
      refine RegI.fix 11 true hc7 (by kernel_rfl) (by kernel_rfl) ?_
      refine RegI.pure 4 [1, 15] [(1, .pointer (some ⟨b2, 0, none⟩)), (15, .bool true)] (by kernel_rfl) ?_
      refine RegI.only [1, 15] [(1, .pointer (some ⟨b2, 0, none⟩)), (15, .bool true)] (by kernel_rfl) (by kernel_rfl) ?_
      exact hj13 true w1 h (h3.pick [0] (by decide))
    · skip
      refine RegI.fix 11 false hc7 (by kernel_rfl) (by kernel_rfl) ?_
      refine RegI.pure 1 [1, 11, 12] [(1, .pointer (some ⟨b2, 0, none⟩)), (11, .bool false), (12, .pointer (some ⟨b2, 0, none⟩))] (by kernel_rfl) ?_
      refine RegI.op (by kernel_rfl) (OpE.loadBox 13 0 3 b2 0 (.int .i64 p0_0) h3 (by kernel_rfl) (by kernel_rfl) rfl (by kernel_rfl) ?_)
      refine RegI.pure 2 [1, 15] [(1, .pointer (some ⟨b2, 0, none⟩)), (15, .bool (p0_0 == 4))] (by kernel_rfl) ?_
      refine RegI.only [1, 15] [(1, .pointer (some ⟨b2, 0, none⟩)), (15, .bool (p0_0 == 4))] (by kernel_rfl) (by kernel_rfl) ?_
      exact hj13 (p0_0 == 4) w1 h (h3.pick [0] (by decide))
end
end Go.Proofs.Ytmcdkmakjjlcnaa.Dec
