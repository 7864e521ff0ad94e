/- Functions of the program as plain Lean functions, each with the proof that the call comes to it; written by wip/eng.py. -/
import Derived.Test.YtmebkghfjamffaaDoorHis2
set_option linter.unusedVariables false
set_option linter.unusedSimpArgs false
set_option maxHeartbeats 4000000
namespace Go.Proofs.YtmebkghfjamffaaDoor.His
open Go.RowKit Go.Eng
/-! ### charabanc/charabanclaw29.awake (function 9) -/
section
def charabanclaw29_awake_9.post (M0 : Nat → Prop) (w0 : World) (r : Bool) : Ending → World → Prop := fun e w => e = .returned (.bool r) ∧ Below w0.heap.size w0 w
def charabanclaw29_awake_9.f (K : Nat) : Option Bool := (history_Tenures_17.f K ([(1, 1, 3, 5, 0, 7), (2, 1, 2, 5, 0, 7), (4, 3, 2, 5, 0, 8)] : List (Int × Int × Int × Int × Int × Int))).bind fun t12 => cond ((t12.length : Int) == 2) (cond (inR 0 t12.length) (cond ((((rdD t12 0).1) == 1) && ((((rdD t12 0).2.1) == 1) && ((((rdD t12 0).2.2.1) == 2) && ((((rdD t12 0).2.2.2) == 2) && true)))) ((history_Legal_13.f K ([] : List Int) 1 0 ([] : List (Int × Int)) ([(1, 1, 3, 5, 0, 7), (2, 1, 2, 5, 0, 7), (4, 3, 2, 5, 0, 8)] : List (Int × Int × Int × Int × Int × Int))).bind fun t33 => cond (t33 == 2) (cond (cutR 0 2 ([(1, 1, 3, 5, 0, 7), (2, 1, 2, 5, 0, 7), (4, 3, 2, 5, 0, 8)] : List (Int × Int × Int × Int × Int × Int)).length) ((history_Legal_13.f K ([] : List Int) 1 0 ([] : List (Int × Int)) (cutL ([(1, 1, 3, 5, 0, 7), (2, 1, 2, 5, 0, 7), (4, 3, 2, 5, 0, 8)] : List (Int × Int × Int × Int × Int × Int)) 0 2)).bind fun t40 => cond (t40 == (-1)) ((history_Behind_16.f K ([] : List Int) 1 0 ([] : List (Int × Int)) ([(1, 1, 3, 5, 0, 7), (2, 1, 2, 5, 0, 7), (4, 3, 2, 5, 0, 8)] : List (Int × Int × Int × Int × Int × Int))).bind fun yt50 => (banks_Read_42.f K yt50.1 yt50.2.1 yt50.2.2.1 yt50.2.2.2 5).bind fun t70 => cond (t70 == 7) ((history_Of_24.f K ([(1, 1, 3, 5, 0, 7), (2, 1, 2, 5, 0, 7), (4, 3, 2, 5, 0, 8)] : List (Int × Int × Int × Int × Int × Int)) 3).bind fun t81 => cond ((t81.length : Int) == 1) ((history_Counts_19.f K ([(1, 1, 3, 5, 0, 7), (2, 1, 2, 5, 0, 7), (4, 3, 2, 5, 0, 8)] : List (Int × Int × Int × Int × Int × Int))).bind fun t89 => cond (Nat.beq t89.length 4) (cond (t89 == ([0, 2, 0, 1] : List Int)) ((history_Meets_21.f K ([(1, 1, 3, 5, 0, 7), (2, 1, 2, 5, 0, 7), (4, 3, 2, 5, 0, 8)] : List (Int × Int × Int × Int × Int × Int))).bind fun t93 => cond (!t93) (cond (inR 0 ([(1, 1, 3, 5, 0, 7), (2, 1, 2, 5, 0, 7), (4, 3, 2, 5, 0, 8)] : List (Int × Int × Int × Int × Int × Int)).length) ((history_Line_26.f K ((rdD ([(1, 1, 3, 5, 0, 7), (2, 1, 2, 5, 0, 7), (4, 3, 2, 5, 0, 8)] : List (Int × Int × Int × Int × Int × Int)) 0).1) ((rdD ([(1, 1, 3, 5, 0, 7), (2, 1, 2, 5, 0, 7), (4, 3, 2, 5, 0, 8)] : List (Int × Int × Int × Int × Int × Int)) 0).2.1) ((rdD ([(1, 1, 3, 5, 0, 7), (2, 1, 2, 5, 0, 7), (4, 3, 2, 5, 0, 8)] : List (Int × Int × Int × Int × Int × Int)) 0).2.2.1) ((rdD ([(1, 1, 3, 5, 0, 7), (2, 1, 2, 5, 0, 7), (4, 3, 2, 5, 0, 8)] : List (Int × Int × Int × Int × Int × Int)) 0).2.2.2.1) ((rdD ([(1, 1, 3, 5, 0, 7), (2, 1, 2, 5, 0, 7), (4, 3, 2, 5, 0, 8)] : List (Int × Int × Int × Int × Int × Int)) 0).2.2.2.2.1) ((rdD ([(1, 1, 3, 5, 0, 7), (2, 1, 2, 5, 0, 7), (4, 3, 2, 5, 0, 8)] : List (Int × Int × Int × Int × Int × Int)) 0).2.2.2.2.2)).bind fun t102 => some ((ByteArray.toList t102) == (ByteArray.toList (⟨#[49, 32, 99, 112, 117, 48, 32, 119, 114, 105, 116, 101, 32, 48, 48, 48, 53, 104, 32, 48, 55, 104]⟩ : ByteArray)))) none) (some false)) (some false)) none) (some false)) (some false)) (some false)) none) (some false)) (some false)) none) (some false)
set_option maxRecDepth 100000 in
theorem charabanclaw29_awake_9_ok (K : Nat) (M0 : Nat → Prop) (w0 : World) (ho : ∀ b, M0 b → b < w0.heap.size) (hG0 : (gl 0 (tab_0.flatMap en_0)).ok w0 M0) (hG1 : (gl 1 (tab_1.flatMap en_1)).ok w0 M0) (hG2 : (gl 2 (tab_2.flatMap en_2)).ok w0 M0) (hG3 : (gl 3 (tab_3.flatMap en_3)).ok w0 M0) (hG7 : (gl 7 (tab_7.flatMap en_7)).ok w0 M0) (hG8 : (gl 8 (tab_8.flatMap en_8)).ok w0 M0) {r : Bool} (h : charabanclaw29_awake_9.f K = some r) :
    Calls Tryd.prog 9 #[] w0 (charabanclaw29_awake_9.post M0 w0 r) := by
  unfold charabanclaw29_awake_9.f at h
  have h0 : Holds M0 w0 w0 [] := Holds.start ho
  have h0g0 := h0.add (gl 0 (tab_0.flatMap en_0)) rfl ⟨hG0.1, fun hm => hG0.2.1 (hm.elim id (fun hm => absurd hm (by simp [mines, sl, gl]))), hG0.2.2⟩
  have h0g1 := h0g0.add (gl 1 (tab_1.flatMap en_1)) rfl ⟨hG1.1, fun hm => hG1.2.1 (hm.elim id (fun hm => absurd hm (by simp [mines, sl, gl]))), hG1.2.2⟩
  have h0g2 := h0g1.add (gl 2 (tab_2.flatMap en_2)) rfl ⟨hG2.1, fun hm => hG2.2.1 (hm.elim id (fun hm => absurd hm (by simp [mines, sl, gl]))), hG2.2.2⟩
  have h0g3 := h0g2.add (gl 3 (tab_3.flatMap en_3)) rfl ⟨hG3.1, fun hm => hG3.2.1 (hm.elim id (fun hm => absurd hm (by simp [mines, sl, gl]))), hG3.2.2⟩
  have h0g7 := h0g3.add (gl 7 (tab_7.flatMap en_7)) rfl ⟨hG7.1, fun hm => hG7.2.1 (hm.elim id (fun hm => absurd hm (by simp [mines, sl, gl]))), hG7.2.2⟩
  have h0g8 := h0g7.add (gl 8 (tab_8.flatMap en_8)) rfl ⟨hG8.1, fun hm => hG8.2.1 (hm.elim id (fun hm => absurd hm (by simp [mines, sl, gl]))), hG8.2.2⟩
  have h0 : Holds M0 w0 w0 [gl 0 (tab_0.flatMap en_0), gl 1 (tab_1.flatMap en_1), gl 2 (tab_2.flatMap en_2), gl 3 (tab_3.flatMap en_3), gl 7 (tab_7.flatMap en_7), gl 8 (tab_8.flatMap en_8)] := h0g8
  refine calls_of F9 rfl [] (by kernel_rfl) ?_
  refine RunsI.go 1 [.c 1, .c 2] (by kernel_rfl) ?_
  refine RunsI.region (by kernel_rfl) ?_
  refine RegI.pure 1 [] [] (by kernel_rfl) ?_
  refine RegI.done (by kernel_rfl) ?_
  refine RunsI.go 1 [.c 3, .c 4] (by kernel_rfl) ?_
  refine RunsI.region (by kernel_rfl) ?_
  refine RegI.pure 3 [4, 5, 6] [(4, .agg #[.int .i64 1, .int .i64 1, .int .i64 3, .int .u16 5, .int .i64 0, .int .u8 7]), (5, .agg #[.int .i64 2, .int .i64 1, .int .i64 2, .int .u16 5, .int .i64 0, .int .u8 7]), (6, .agg #[.int .i64 4, .int .i64 3, .int .i64 2, .int .u16 5, .int .i64 0, .int .u8 8])] (by kernel_rfl) ?_
  refine RegI.op (by kernel_rfl) (OpE.lit 7 54 [.int .i64 1, .int .i64 1, .int .i64 3, .int .u16 5, .int .i64 0, .int .u8 7, .int .i64 2, .int .i64 1, .int .i64 2, .int .u16 5, .int .i64 0, .int .u8 7, .int .i64 4, .int .i64 3, .int .i64 2, .int .u16 5, .int .i64 0, .int .u8 8] 3 h0 (by kernel_rfl) (by kernel_rfl) ?_)
  intro w1 b2 h3 hb4 hn5
  refine RegI.pure 1 [1] [(1, .slice (some ⟨b2, 0, none⟩) (([(1, 1, 3, 5, 0, 7), (2, 1, 2, 5, 0, 7), (4, 3, 2, 5, 0, 8)] : List (Int × Int × Int × Int × Int × Int)).length) 3)] (by kernel_rfl) ?_
  refine RegI.done (by kernel_rfl) ?_
  refine RunsI.go 1 [.c 5, .c 6] (by kernel_rfl) ?_
  refine RunsI.region (by kernel_rfl) ?_
  refine RegI.pure 1 [1, 8] [(1, .slice (some ⟨b2, 0, none⟩) (([(1, 1, 3, 5, 0, 7), (2, 1, 2, 5, 0, 7), (4, 3, 2, 5, 0, 8)] : List (Int × Int × Int × Int × Int × Int)).length) 3), (8, .slice (some ⟨b2, 0, none⟩) (([(1, 1, 3, 5, 0, 7), (2, 1, 2, 5, 0, 7), (4, 3, 2, 5, 0, 8)] : List (Int × Int × Int × Int × Int × Int)).length) 3)] (by kernel_rfl) ?_
  obtain ⟨t12, hg11, h⟩ := of_bind h
  have h6 := h3.boxOwn 6 rfl (Rp.pair (Rp.int .i64) (Rp.pair (Rp.int .i64) (Rp.pair (Rp.int .i64) (Rp.pair (Rp.int .u16) (Rp.pair (Rp.int .i64) (Rp.int .u8)))))) ([(1, 1, 3, 5, 0, 7), (2, 1, 2, 5, 0, 7), (4, 3, 2, 5, 0, 8)] : List (Int × Int × Int × Int × Int × Int)) (⟨[_, _, _, _, _, _], _, rfl, ⟨[_], [_, _, _, _, _], rfl, rfl, ⟨[_], [_, _, _, _], rfl, rfl, ⟨[_], [_, _, _], rfl, rfl, ⟨[_], [_, _], rfl, rfl, ⟨[_], [_], rfl, rfl, rfl⟩⟩⟩⟩⟩, ⟨[_, _, _, _, _, _], _, rfl, ⟨[_], [_, _, _, _, _], rfl, rfl, ⟨[_], [_, _, _, _], rfl, rfl, ⟨[_], [_, _, _], rfl, rfl, ⟨[_], [_, _], rfl, rfl, ⟨[_], [_], rfl, rfl, rfl⟩⟩⟩⟩⟩, ⟨[_, _, _, _, _, _], _, rfl, ⟨[_], [_, _, _, _, _], rfl, rfl, ⟨[_], [_, _, _, _], rfl, rfl, ⟨[_], [_, _, _], rfl, rfl, ⟨[_], [_, _], rfl, rfl, ⟨[_], [_], rfl, rfl, rfl⟩⟩⟩⟩⟩, rfl⟩⟩⟩) (Nat.le_of_ble_eq_true (by kernel_rfl))
  have h7 := h6.release 6 rfl
  refine RegI.op (by kernel_rfl) (OpE.call 9 (by kernel_rfl) 17 #[.slice (some ⟨b2, 0, none⟩) (([(1, 1, 3, 5, 0, 7), (2, 1, 2, 5, 0, 7), (4, 3, 2, 5, 0, 8)] : List (Int × Int × Int × Int × Int × Int)).length) 3] (by kernel_rfl) ((history_Tenures_17_ok K _ w1  (some ⟨b2, 0, none⟩) 3 ([(1, 1, 3, 5, 0, 7), (2, 1, 2, 5, 0, 7), (4, 3, 2, 5, 0, 8)] : List (Int × Int × Int × Int × Int × Int)) h7.old' (h7.get 6 rfl) hg11).mono ?_))
  rintro _ w8 ⟨A13, c14, rfl, hr16⟩
  refine ⟨_, rfl, ?_⟩
  have hb9 := hr16.below
  have h10 := h7.join hr16
  refine RegI.pure 1 [1, 2] [(1, .slice (some ⟨b2, 0, none⟩) (([(1, 1, 3, 5, 0, 7), (2, 1, 2, 5, 0, 7), (4, 3, 2, 5, 0, 8)] : List (Int × Int × Int × Int × Int × Int)).length) 3), (2, .slice A13 t12.length c14)] (by kernel_rfl) ?_
  refine RegI.done (by kernel_rfl) ?_
  refine RunsI.go 1 [.c 7, .c 8] (by kernel_rfl) ?_
  refine RunsI.region (by kernel_rfl) ?_
  refine RegI.pure 1 [1, 2, 10] [(1, .slice (some ⟨b2, 0, none⟩) (([(1, 1, 3, 5, 0, 7), (2, 1, 2, 5, 0, 7), (4, 3, 2, 5, 0, 8)] : List (Int × Int × Int × Int × Int × Int)).length) 3), (2, .slice A13 t12.length c14), (10, .agg #[.slice none 0 0, .int .i64 1, .int .i64 0, .slice none 0 0])] (by kernel_rfl) ?_
  refine RegI.op (by kernel_rfl) (OpE.box 3 25 [.slice none 0 0, .int .i64 0, .int .i64 0, .slice none 0 0] h10 (by kernel_rfl) (by kernel_rfl) ?_)
  intro w17 b18 h19 hb20 hn21
  refine RegI.op (by kernel_rfl) (OpE.storeBox 8 25 b18 0 (.agg #[.slice none 0 0, .int .i64 1, .int .i64 0, .slice none 0 0]) [.slice none 0 0, .int .i64 1, .int .i64 0, .slice none 0 0] h19 (by kernel_rfl) (by kernel_rfl) rfl (by kernel_rfl) (by kernel_rfl) (by kernel_rfl) ?_)
  intro w22 h23 hk24
  refine RegI.done (by kernel_rfl) ?_
  refine RunsI.go 1 [.c 9, .c 10] (by kernel_rfl) ?_
  refine RunsI.any 55 (by kernel_rfl) (by kernel_rfl) (by kernel_rfl) (Kp ([] : List Nat) (World.drew w22)) ?_
  have h26 := h23.drew
  generalize World.drew w22 = w25 at h26 ⊢
  have hS27 := Kp.refl ([] : List Nat) w25
  refine AnyE.pure 0 11 (.slice A13 t12.length c14) (by kernel_rfl) hS27 (fun _ => by kernel_rfl) ?_
  refine AnyE.pure 1 12 (.int .i64 (t12.length : Int)) (by kernel_rfl) hS27 (fun _ => by kernel_rfl) ?_
  refine AnyE.pure 2 13 (.bool ((t12.length : Int) == 2)) (by kernel_rfl) hS27 (fun _ => by kernel_rfl) ?_
  refine AnyE.pure 3 14 (.bool ((t12.length : Int) == 2)) (by kernel_rfl) hS27 (fun _ => by kernel_rfl) ?_
  rcases of_cond h with ⟨hc29, h⟩ | ⟨hc29, h⟩
  · skip
    refine AnyE.fix 14 true hc29 (by kernel_rfl) (by kernel_rfl) ?_
    refine AnyE.pure 4 15 (.slice A13 t12.length c14) (by kernel_rfl) hS27 (fun _ => by kernel_rfl) ?_
    obtain ⟨hc30, h⟩ := of_cond0 h
    refine AnyE.idxOwnA 5 16 7 39 49 0 h26 (by kernel_rfl) hS27 rfl (by kernel_rfl) (by kernel_rfl) hc30 ?_
    refine AnyE.loadOwnA 6 17 7 49 49 0 0 (.agg #[.int .i64 ((rdD t12 0).1), .int .i64 ((rdD t12 0).2.1), .int .i64 ((rdD t12 0).2.2.1), .int .i64 ((rdD t12 0).2.2.2)]) [] (o := (Int.toNat 0) * 4 + 0) h26 rfl (by kernel_rfl) hS27 rfl rfl (by kernel_rfl) rfl hc30 (fun _ _ hk => by obtain ⟨_, _, rfl, rfl, ⟨_, _, rfl, rfl, ⟨_, _, rfl, rfl, rfl⟩⟩⟩ := hk; kernel_rfl) ?_
    refine AnyE.pure 7 18 (.agg #[.int .i64 1, .int .i64 1, .int .i64 2, .int .i64 2]) (by kernel_rfl) hS27 (fun _ => by kernel_rfl) ?_
    refine AnyE.run 8 19 (.bool ((((rdD t12 0).1) == 1) && ((((rdD t12 0).2.1) == 1) && ((((rdD t12 0).2.2.1) == 2) && ((((rdD t12 0).2.2.2) == 2) && true))))) (by kernel_rfl) hS27 (fun _ hk => run_eqS (neg := false) (t := 49) (x := .agg #[.int .i64 ((rdD t12 0).1), .int .i64 ((rdD t12 0).2.1), .int .i64 ((rdD t12 0).2.2.1), .int .i64 ((rdD t12 0).2.2.2)]) (y := .agg #[.int .i64 1, .int .i64 1, .int .i64 2, .int .i64 2]) (b := ((((rdD t12 0).1) == 1) && ((((rdD t12 0).2.1) == 1) && ((((rdD t12 0).2.2.1) == 2) && ((((rdD t12 0).2.2.2) == 2) && true))))) (by kernel_rfl) (by kernel_rfl) (by kernel_rfl) (by kernel_rfl)) ?_
    refine AnyE.pure 9 20 (.bool ((((rdD t12 0).1) == 1) && ((((rdD t12 0).2.1) == 1) && ((((rdD t12 0).2.2.1) == 2) && ((((rdD t12 0).2.2.2) == 2) && true))))) (by kernel_rfl) hS27 (fun _ => by kernel_rfl) ?_
    refine AnyE.pure 10 21 (.bool ((((rdD t12 0).1) == 1) && ((((rdD t12 0).2.1) == 1) && ((((rdD t12 0).2.2.1) == 2) && ((((rdD t12 0).2.2.2) == 2) && true))))) (by kernel_rfl) hS27 (fun _ => by kernel_rfl) ?_
    rcases of_cond h with ⟨hc31, h⟩ | ⟨hc31, h⟩
    · skip
      refine AnyE.fix 21 true hc31 (by kernel_rfl) (by kernel_rfl) ?_
      refine AnyE.loadBox 11 22 8 25 b18 0 (.agg #[.slice none 0 0, .int .i64 1, .int .i64 0, .slice none 0 0]) [] h26 rfl (by kernel_rfl) hS27 rfl rfl (by kernel_rfl) (by kernel_rfl) ?_
      refine AnyE.pure 12 23 (.slice (some ⟨b2, 0, none⟩) (([(1, 1, 3, 5, 0, 7), (2, 1, 2, 5, 0, 7), (4, 3, 2, 5, 0, 8)] : List (Int × Int × Int × Int × Int × Int)).length) 3) (by kernel_rfl) hS27 (fun _ => by kernel_rfl) ?_
      obtain ⟨t33, hg32, h⟩ := of_bind h
      refine AnyE.call 13 24 (.int .i64 t33) 13 #[.agg #[.slice none 0 0, .int .i64 1, .int .i64 0, .slice none 0 0], .slice (some ⟨b2, 0, none⟩) (([(1, 1, 3, 5, 0, 7), (2, 1, 2, 5, 0, 7), (4, 3, 2, 5, 0, 8)] : List (Int × Int × Int × Int × Int × Int)).length) 3] (by kernel_rfl) hS27 (fun _ => by kernel_rfl) (fun w hk => history_Legal_13_ok K (fun _ => False) w none 0 none 0 (some ⟨b2, 0, none⟩) 3 ([] : List Int) 1 0 ([] : List (Int × Int)) ([(1, 1, 3, 5, 0, 7), (2, 1, 2, 5, 0, 7), (4, 3, 2, 5, 0, 8)] : List (Int × Int × Int × Int × Int × Int)) (fun _ hf => hf.elim) (Sl.nil _ _ _) (Sl.nil _ _ _) (Sl.mono (h26.atI [] rfl hk 6 rfl rfl) (fun _ _ hf => hf.elim)) ⟨(h26.atI [] rfl hk 2 rfl rfl).1, fun hf => hf.elim, (h26.atI [] rfl hk 2 rfl rfl).2.2⟩ hg32) ?_
      refine AnyE.pure 14 25 (.bool (t33 == 2)) (by kernel_rfl) hS27 (fun _ => by kernel_rfl) ?_
      refine AnyE.pure 15 26 (.bool (t33 == 2)) (by kernel_rfl) hS27 (fun _ => by kernel_rfl) ?_
      refine AnyE.pure 16 27 (.bool (t33 == 2)) (by kernel_rfl) hS27 (fun _ => by kernel_rfl) ?_
      rcases of_cond h with ⟨hc34, h⟩ | ⟨hc34, h⟩
      · skip
        refine AnyE.fix 27 true hc34 (by kernel_rfl) (by kernel_rfl) ?_
        refine AnyE.loadBox 17 28 8 25 b18 0 (.agg #[.slice none 0 0, .int .i64 1, .int .i64 0, .slice none 0 0]) [] h26 rfl (by kernel_rfl) hS27 rfl rfl (by kernel_rfl) (by kernel_rfl) ?_
        refine AnyE.pure 18 29 (.slice (some ⟨b2, 0, none⟩) (([(1, 1, 3, 5, 0, 7), (2, 1, 2, 5, 0, 7), (4, 3, 2, 5, 0, 8)] : List (Int × Int × Int × Int × Int × Int)).length) 3) (by kernel_rfl) hS27 (fun _ => by kernel_rfl) ?_
        obtain ⟨hc35, h⟩ := of_cond0 h
        refine AnyE.cutSl 19 30 6 26 none (some 2) h26 (by kernel_rfl) hS27 rfl (by kernel_rfl) (by kernel_rfl) hc35 ?_
        intro A36 c37 h38
        obtain ⟨t40, hg39, h⟩ := of_bind h
        refine AnyE.call 20 31 (.int .i64 t40) 13 #[.agg #[.slice none 0 0, .int .i64 1, .int .i64 0, .slice none 0 0], .slice A36 ((cutL ([(1, 1, 3, 5, 0, 7), (2, 1, 2, 5, 0, 7), (4, 3, 2, 5, 0, 8)] : List (Int × Int × Int × Int × Int × Int)) 0 2).length) c37] (by kernel_rfl) hS27 (fun _ => by kernel_rfl) (fun w hk => history_Legal_13_ok K (fun _ => False) w none 0 none 0 A36 c37 ([] : List Int) 1 0 ([] : List (Int × Int)) (cutL ([(1, 1, 3, 5, 0, 7), (2, 1, 2, 5, 0, 7), (4, 3, 2, 5, 0, 8)] : List (Int × Int × Int × Int × Int × Int)) 0 2) (fun _ hf => hf.elim) (Sl.nil _ _ _) (Sl.nil _ _ _) (Sl.mono (h38.atI [] rfl hk 9 rfl rfl) (fun _ _ hf => hf.elim)) ⟨(h38.atI [] rfl hk 2 rfl rfl).1, fun hf => hf.elim, (h38.atI [] rfl hk 2 rfl rfl).2.2⟩ hg39) ?_
        refine AnyE.pure 21 32 (.bool (t40 == (-1))) (by kernel_rfl) hS27 (fun _ => by kernel_rfl) ?_
        refine AnyE.pure 22 33 (.bool (t40 == (-1))) (by kernel_rfl) hS27 (fun _ => by kernel_rfl) ?_
        refine AnyE.pure 23 34 (.bool (t40 == (-1))) (by kernel_rfl) hS27 (fun _ => by kernel_rfl) ?_
        rcases of_cond h with ⟨hc41, h⟩ | ⟨hc41, h⟩
        · skip
          refine AnyE.fix 34 true hc41 (by kernel_rfl) (by kernel_rfl) ?_
          refine AnyE.loadBox 24 35 8 25 b18 0 (.agg #[.slice none 0 0, .int .i64 1, .int .i64 0, .slice none 0 0]) [] h38 rfl (by kernel_rfl) hS27 rfl rfl (by kernel_rfl) (by kernel_rfl) ?_
          refine AnyE.pure 25 36 (.slice (some ⟨b2, 0, none⟩) (([(1, 1, 3, 5, 0, 7), (2, 1, 2, 5, 0, 7), (4, 3, 2, 5, 0, 8)] : List (Int × Int × Int × Int × Int × Int)).length) 3) (by kernel_rfl) hS27 (fun _ => by kernel_rfl) ?_
          refine AnyE.one 26 (by kernel_rfl) (fun w42 hu43 => ?_)
          have h44 := h38.call hu43
          have hS45 := hS27.up hu43
          obtain ⟨⟨t50, t54, t55, t56⟩, hg49, h⟩ := of_bind h
          dsimp only at h
          refine OpE.call 37 (by kernel_rfl) 16 #[.agg #[.slice none 0 0, .int .i64 1, .int .i64 0, .slice none 0 0], .slice (some ⟨b2, 0, none⟩) (([(1, 1, 3, 5, 0, 7), (2, 1, 2, 5, 0, 7), (4, 3, 2, 5, 0, 8)] : List (Int × Int × Int × Int × Int × Int)).length) 3] (by kernel_rfl) ((history_Behind_16_ok K _ w42  none 0 none 0 (some ⟨b2, 0, none⟩) 3 ([] : List Int) 1 0 ([] : List (Int × Int)) ([(1, 1, 3, 5, 0, 7), (2, 1, 2, 5, 0, 7), (4, 3, 2, 5, 0, 8)] : List (Int × Int × Int × Int × Int × Int)) h44.old' (Sl.nil _ _ _) (Sl.nil _ _ _) (h44.get 6 rfl) (h44.get 2 rfl) hg49).mono ?_)
          rintro _ w46 ⟨A51, c52, A57, c58, rfl, hr60⟩
          refine ⟨_, rfl, ?_⟩
          have hb47 := hr60.below
          have h48 := h44.join hr60
          have hS61 := hS45.up hb47
          refine ⟨hS61, ?_⟩
          refine AnyE.one 27 (by kernel_rfl) (fun w62 hu63 => ?_)
          have h64 := h48.call hu63
          have hS65 := hS61.up hu63
          obtain ⟨t70, hg69, h⟩ := of_bind h
          refine OpE.call 38 (by kernel_rfl) 42 #[.agg #[.slice A51 t50.length c52, .int .i64 t54, .int .i64 t55, .slice A57 t56.length c58], .int .u16 5] (by kernel_rfl) ((banks_Read_42_ok K _ w62  A51 c52 A57 c58 t50 t54 t55 t56 5 h64.old' (h64.get 10 rfl) (h64.get 11 rfl) hg69).mono ?_)
          rintro _ w66 ⟨rfl, hb67⟩
          refine ⟨_, rfl, ?_⟩
          have h68 := h64.call hb67
          have hS71 := hS65.up hb67
          refine ⟨hS71, ?_⟩
          refine AnyE.pure 28 39 (.bool (t70 == 7)) (by kernel_rfl) hS71 (fun _ => by kernel_rfl) ?_
          refine AnyE.pure 29 40 (.bool (t70 == 7)) (by kernel_rfl) hS71 (fun _ => by kernel_rfl) ?_
          refine AnyE.pure 30 41 (.bool (t70 == 7)) (by kernel_rfl) hS71 (fun _ => by kernel_rfl) ?_
          rcases of_cond h with ⟨hc72, h⟩ | ⟨hc72, h⟩
          · skip
            refine AnyE.fix 41 true hc72 (by kernel_rfl) (by kernel_rfl) ?_
            refine AnyE.pure 31 42 (.slice (some ⟨b2, 0, none⟩) (([(1, 1, 3, 5, 0, 7), (2, 1, 2, 5, 0, 7), (4, 3, 2, 5, 0, 8)] : List (Int × Int × Int × Int × Int × Int)).length) 3) (by kernel_rfl) hS71 (fun _ => by kernel_rfl) ?_
            refine AnyE.one 32 (by kernel_rfl) (fun w73 hu74 => ?_)
            have h75 := h68.call hu74
            have hS76 := hS71.up hu74
            obtain ⟨t81, hg80, h⟩ := of_bind h
            refine OpE.call 43 (by kernel_rfl) 24 #[.slice (some ⟨b2, 0, none⟩) (([(1, 1, 3, 5, 0, 7), (2, 1, 2, 5, 0, 7), (4, 3, 2, 5, 0, 8)] : List (Int × Int × Int × Int × Int × Int)).length) 3, .int .i64 3] (by kernel_rfl) ((history_Of_24_ok K _ w73  (some ⟨b2, 0, none⟩) 3 ([(1, 1, 3, 5, 0, 7), (2, 1, 2, 5, 0, 7), (4, 3, 2, 5, 0, 8)] : List (Int × Int × Int × Int × Int × Int)) 3 h75.old' (h75.get 6 rfl) hg80).mono ?_)
            rintro _ w77 ⟨A82, c83, rfl, hr85⟩
            refine ⟨_, rfl, ?_⟩
            have hb78 := hr85.below
            have h79 := h75.join hr85
            have hS86 := hS76.up hb78
            refine ⟨hS86, ?_⟩
            refine AnyE.pure 33 44 (.int .i64 (t81.length : Int)) (by kernel_rfl) hS86 (fun _ => by kernel_rfl) ?_
            refine AnyE.pure 34 45 (.bool ((t81.length : Int) == 1)) (by kernel_rfl) hS86 (fun _ => by kernel_rfl) ?_
            refine AnyE.pure 35 46 (.bool ((t81.length : Int) == 1)) (by kernel_rfl) hS86 (fun _ => by kernel_rfl) ?_
            refine AnyE.pure 36 47 (.bool ((t81.length : Int) == 1)) (by kernel_rfl) hS86 (fun _ => by kernel_rfl) ?_
            rcases of_cond h with ⟨hc87, h⟩ | ⟨hc87, h⟩
            · skip
              refine AnyE.fix 47 true hc87 (by kernel_rfl) (by kernel_rfl) ?_
              refine AnyE.pure 37 48 (.slice (some ⟨b2, 0, none⟩) (([(1, 1, 3, 5, 0, 7), (2, 1, 2, 5, 0, 7), (4, 3, 2, 5, 0, 8)] : List (Int × Int × Int × Int × Int × Int)).length) 3) (by kernel_rfl) hS86 (fun _ => by kernel_rfl) ?_
              obtain ⟨t89, hg88, h⟩ := of_bind h
              refine AnyE.call 38 49 (.agg (List.flatMap (fun (x : Int) => ([.int .i64 x] : List Value)) t89).toArray) 19 #[.slice (some ⟨b2, 0, none⟩) (([(1, 1, 3, 5, 0, 7), (2, 1, 2, 5, 0, 7), (4, 3, 2, 5, 0, 8)] : List (Int × Int × Int × Int × Int × Int)).length) 3] (by kernel_rfl) hS86 (fun _ => by kernel_rfl) (fun w hk => history_Counts_19_ok K (fun _ => False) w (some ⟨b2, 0, none⟩) 3 ([(1, 1, 3, 5, 0, 7), (2, 1, 2, 5, 0, 7), (4, 3, 2, 5, 0, 8)] : List (Int × Int × Int × Int × Int × Int)) (fun _ hf => hf.elim) (Sl.mono (h38.atI [] rfl hk 6 rfl rfl) (fun _ _ hf => hf.elim)) hg88) ?_
              refine AnyE.pure 39 50 (.agg (List.flatMap (fun (x : Int) => ([.int .i64 x] : List Value)) ([0, 2, 0, 1] : List Int)).toArray) (by kernel_rfl) hS86 (fun _ => by kernel_rfl) ?_
              obtain ⟨hc90, h⟩ := of_cond0 h
              refine AnyE.run 40 51 (.bool (t89 == ([0, 2, 0, 1] : List Int))) (by kernel_rfl) hS86 (fun _ hk => run_eqArr (T := 43) (E := 3) (len := 4) (kk := .i64) (q := .i64) (neg := false) (xs := t89) (ys := ([0, 2, 0, 1] : List Int)) (by kernel_rfl) (by kernel_rfl) (by kernel_rfl) (by kernel_rfl) (by kernel_rfl) (by kernel_rfl) hc90 (by kernel_rfl)) ?_
              refine AnyE.pure 41 52 (.bool (t89 == ([0, 2, 0, 1] : List Int))) (by kernel_rfl) hS86 (fun _ => by kernel_rfl) ?_
              refine AnyE.pure 42 53 (.bool (t89 == ([0, 2, 0, 1] : List Int))) (by kernel_rfl) hS86 (fun _ => by kernel_rfl) ?_
              rcases of_cond h with ⟨hc91, h⟩ | ⟨hc91, h⟩
              · skip
                refine AnyE.fix 53 true hc91 (by kernel_rfl) (by kernel_rfl) ?_
                refine AnyE.pure 43 54 (.slice (some ⟨b2, 0, none⟩) (([(1, 1, 3, 5, 0, 7), (2, 1, 2, 5, 0, 7), (4, 3, 2, 5, 0, 8)] : List (Int × Int × Int × Int × Int × Int)).length) 3) (by kernel_rfl) hS86 (fun _ => by kernel_rfl) ?_
                obtain ⟨t93, hg92, h⟩ := of_bind h
                refine AnyE.call 44 55 (.bool t93) 21 #[.slice (some ⟨b2, 0, none⟩) (([(1, 1, 3, 5, 0, 7), (2, 1, 2, 5, 0, 7), (4, 3, 2, 5, 0, 8)] : List (Int × Int × Int × Int × Int × Int)).length) 3] (by kernel_rfl) hS86 (fun _ => by kernel_rfl) (fun w hk => history_Meets_21_ok K (fun _ => False) w (some ⟨b2, 0, none⟩) 3 ([(1, 1, 3, 5, 0, 7), (2, 1, 2, 5, 0, 7), (4, 3, 2, 5, 0, 8)] : List (Int × Int × Int × Int × Int × Int)) (fun _ hf => hf.elim) (Sl.mono (h38.atI [] rfl hk 6 rfl rfl) (fun _ _ hf => hf.elim)) hg92) ?_
                refine AnyE.pure 45 56 (.bool (!t93)) (by kernel_rfl) hS86 (fun _ => by kernel_rfl) ?_
                refine AnyE.pure 46 57 (.bool (!t93)) (by kernel_rfl) hS86 (fun _ => by kernel_rfl) ?_
                refine AnyE.pure 47 58 (.bool (!t93)) (by kernel_rfl) hS86 (fun _ => by kernel_rfl) ?_
                rcases of_cond h with ⟨hc94, h⟩ | ⟨hc94, h⟩
                · skip
                  refine AnyE.fix 58 true hc94 (by kernel_rfl) (by kernel_rfl) ?_
                  refine AnyE.pure 48 59 (.slice (some ⟨b2, 0, none⟩) (([(1, 1, 3, 5, 0, 7), (2, 1, 2, 5, 0, 7), (4, 3, 2, 5, 0, 8)] : List (Int × Int × Int × Int × Int × Int)).length) 3) (by kernel_rfl) hS86 (fun _ => by kernel_rfl) ?_
                  obtain ⟨hc95, h⟩ := of_cond0 h
                  refine AnyE.idxSl 49 60 6 26 0 h38 (by kernel_rfl) hS86 rfl (by kernel_rfl) (by kernel_rfl) hc95 ?_
                  intro b96 o97 cs98 hk99 h100
                  obtain ⟨_, _, rfl, rfl, ⟨_, _, rfl, rfl, ⟨_, _, rfl, rfl, ⟨_, _, rfl, rfl, ⟨_, _, rfl, rfl, rfl⟩⟩⟩⟩⟩ := hk99
                  refine AnyE.loadCel 50 61 10 54 b96 o97 0 (.agg #[.int .i64 ((rdD ([(1, 1, 3, 5, 0, 7), (2, 1, 2, 5, 0, 7), (4, 3, 2, 5, 0, 8)] : List (Int × Int × Int × Int × Int × Int)) 0).1), .int .i64 ((rdD ([(1, 1, 3, 5, 0, 7), (2, 1, 2, 5, 0, 7), (4, 3, 2, 5, 0, 8)] : List (Int × Int × Int × Int × Int × Int)) 0).2.1), .int .i64 ((rdD ([(1, 1, 3, 5, 0, 7), (2, 1, 2, 5, 0, 7), (4, 3, 2, 5, 0, 8)] : List (Int × Int × Int × Int × Int × Int)) 0).2.2.1), .int .u16 ((rdD ([(1, 1, 3, 5, 0, 7), (2, 1, 2, 5, 0, 7), (4, 3, 2, 5, 0, 8)] : List (Int × Int × Int × Int × Int × Int)) 0).2.2.2.1), .int .i64 ((rdD ([(1, 1, 3, 5, 0, 7), (2, 1, 2, 5, 0, 7), (4, 3, 2, 5, 0, 8)] : List (Int × Int × Int × Int × Int × Int)) 0).2.2.2.2.1), .int .u8 ((rdD ([(1, 1, 3, 5, 0, 7), (2, 1, 2, 5, 0, 7), (4, 3, 2, 5, 0, 8)] : List (Int × Int × Int × Int × Int × Int)) 0).2.2.2.2.2)]) [] h100 rfl (by kernel_rfl) hS86 rfl rfl (by kernel_rfl) (by kernel_rfl) ?_
                  obtain ⟨t102, hg101, h⟩ := of_bind h
                  refine AnyE.call 51 62 (.string t102) 26 #[.agg #[.int .i64 ((rdD ([(1, 1, 3, 5, 0, 7), (2, 1, 2, 5, 0, 7), (4, 3, 2, 5, 0, 8)] : List (Int × Int × Int × Int × Int × Int)) 0).1), .int .i64 ((rdD ([(1, 1, 3, 5, 0, 7), (2, 1, 2, 5, 0, 7), (4, 3, 2, 5, 0, 8)] : List (Int × Int × Int × Int × Int × Int)) 0).2.1), .int .i64 ((rdD ([(1, 1, 3, 5, 0, 7), (2, 1, 2, 5, 0, 7), (4, 3, 2, 5, 0, 8)] : List (Int × Int × Int × Int × Int × Int)) 0).2.2.1), .int .u16 ((rdD ([(1, 1, 3, 5, 0, 7), (2, 1, 2, 5, 0, 7), (4, 3, 2, 5, 0, 8)] : List (Int × Int × Int × Int × Int × Int)) 0).2.2.2.1), .int .i64 ((rdD ([(1, 1, 3, 5, 0, 7), (2, 1, 2, 5, 0, 7), (4, 3, 2, 5, 0, 8)] : List (Int × Int × Int × Int × Int × Int)) 0).2.2.2.2.1), .int .u8 ((rdD ([(1, 1, 3, 5, 0, 7), (2, 1, 2, 5, 0, 7), (4, 3, 2, 5, 0, 8)] : List (Int × Int × Int × Int × Int × Int)) 0).2.2.2.2.2)]] (by kernel_rfl) hS86 (fun _ => by kernel_rfl) (fun w hk => history_Line_26_ok K (fun _ => False) w ((rdD ([(1, 1, 3, 5, 0, 7), (2, 1, 2, 5, 0, 7), (4, 3, 2, 5, 0, 8)] : List (Int × Int × Int × Int × Int × Int)) 0).1) ((rdD ([(1, 1, 3, 5, 0, 7), (2, 1, 2, 5, 0, 7), (4, 3, 2, 5, 0, 8)] : List (Int × Int × Int × Int × Int × Int)) 0).2.1) ((rdD ([(1, 1, 3, 5, 0, 7), (2, 1, 2, 5, 0, 7), (4, 3, 2, 5, 0, 8)] : List (Int × Int × Int × Int × Int × Int)) 0).2.2.1) ((rdD ([(1, 1, 3, 5, 0, 7), (2, 1, 2, 5, 0, 7), (4, 3, 2, 5, 0, 8)] : List (Int × Int × Int × Int × Int × Int)) 0).2.2.2.1) ((rdD ([(1, 1, 3, 5, 0, 7), (2, 1, 2, 5, 0, 7), (4, 3, 2, 5, 0, 8)] : List (Int × Int × Int × Int × Int × Int)) 0).2.2.2.2.1) ((rdD ([(1, 1, 3, 5, 0, 7), (2, 1, 2, 5, 0, 7), (4, 3, 2, 5, 0, 8)] : List (Int × Int × Int × Int × Int × Int)) 0).2.2.2.2.2) (fun _ hf => hf.elim) ⟨(h100.atI [] rfl hk 0 rfl rfl).1, fun hf => hf.elim, (h100.atI [] rfl hk 0 rfl rfl).2.2⟩ ⟨(h100.atI [] rfl hk 1 rfl rfl).1, fun hf => hf.elim, (h100.atI [] rfl hk 1 rfl rfl).2.2⟩ ⟨(h100.atI [] rfl hk 3 rfl rfl).1, fun hf => hf.elim, (h100.atI [] rfl hk 3 rfl rfl).2.2⟩ ⟨(h100.atI [] rfl hk 4 rfl rfl).1, fun hf => hf.elim, (h100.atI [] rfl hk 4 rfl rfl).2.2⟩ ⟨(h100.atI [] rfl hk 5 rfl rfl).1, fun hf => hf.elim, (h100.atI [] rfl hk 5 rfl rfl).2.2⟩ hg101) ?_
                  refine AnyE.pure 52 63 (.bool ((ByteArray.toList t102) == (ByteArray.toList (⟨#[49, 32, 99, 112, 117, 48, 32, 119, 114, 105, 116, 101, 32, 48, 48, 48, 53, 104, 32, 48, 55, 104]⟩ : ByteArray)))) (by kernel_rfl) hS86 (fun _ => by kernel_rfl) ?_
                  refine AnyE.pure 53 64 (.bool ((ByteArray.toList t102) == (ByteArray.toList (⟨#[49, 32, 99, 112, 117, 48, 32, 119, 114, 105, 116, 101, 32, 48, 48, 48, 53, 104, 32, 48, 55, 104]⟩ : ByteArray)))) (by kernel_rfl) hS86 (fun _ => by kernel_rfl) ?_
                  refine AnyE.pure 54 0 (.bool ((ByteArray.toList t102) == (ByteArray.toList (⟨#[49, 32, 99, 112, 117, 48, 32, 119, 114, 105, 116, 101, 32, 48, 48, 48, 53, 104, 32, 48, 55, 104]⟩ : ByteArray)))) (by kernel_rfl) hS86 (fun _ => by kernel_rfl) ?_
                  refine AnyE.done (by kernel_rfl) (fun w103 hu104 => ?_)
                  have h105 := h79.call hu104
                  refine RunsI.only [0] [(0, .bool ((ByteArray.toList t102) == (ByteArray.toList (⟨#[49, 32, 99, 112, 117, 48, 32, 119, 114, 105, 116, 101, 32, 48, 48, 48, 53, 104, 32, 48, 55, 104]⟩ : ByteArray))))] (by kernel_rfl) (by kernel_rfl) ?_
                  refine RunsI.ret (.bool ((ByteArray.toList t102) == (ByteArray.toList (⟨#[49, 32, 99, 112, 117, 48, 32, 119, 114, 105, 116, 101, 32, 48, 48, 48, 53, 104, 32, 48, 55, 104]⟩ : ByteArray)))) (by kernel_rfl) (by kernel_rfl) ?_
                  obtain rfl := Option.some.inj h
                  exact ⟨rfl, h105.below⟩
                · skip
                  refine AnyE.fix 58 false hc94 (by kernel_rfl) (by kernel_rfl) ?_
                  refine AnyE.no 48 59 (by kernel_rfl) hS86 ?_
                  refine AnyE.no 49 60 (by kernel_rfl) hS86 ?_
                  refine AnyE.no 50 61 (by kernel_rfl) hS86 ?_
                  refine AnyE.no 51 62 (by kernel_rfl) hS86 ?_
                  refine AnyE.no 52 63 (by kernel_rfl) hS86 ?_
                  refine AnyE.pure 53 64 (.bool false) (by kernel_rfl) hS86 (fun _ => by kernel_rfl) ?_
                  refine AnyE.pure 54 0 (.bool false) (by kernel_rfl) hS86 (fun _ => by kernel_rfl) ?_
                  refine AnyE.done (by kernel_rfl) (fun w106 hu107 => ?_)
                  have h108 := h79.call hu107
                  refine RunsI.only [0] [(0, .bool false)] (by kernel_rfl) (by kernel_rfl) ?_
                  refine RunsI.ret (.bool false) (by kernel_rfl) (by kernel_rfl) ?_
                  obtain rfl := Option.some.inj h
                  exact ⟨rfl, h108.below⟩
              · skip
                refine AnyE.fix 53 false hc91 (by kernel_rfl) (by kernel_rfl) ?_
                refine AnyE.no 43 54 (by kernel_rfl) hS86 ?_
                refine AnyE.no 44 55 (by kernel_rfl) hS86 ?_
                refine AnyE.no 45 56 (by kernel_rfl) hS86 ?_
                refine AnyE.pure 46 57 (.bool false) (by kernel_rfl) hS86 (fun _ => by kernel_rfl) ?_
                refine AnyE.pure 47 58 (.bool false) (by kernel_rfl) hS86 (fun _ => by kernel_rfl) ?_
                refine AnyE.no 48 59 (by kernel_rfl) hS86 ?_
                refine AnyE.no 49 60 (by kernel_rfl) hS86 ?_
                refine AnyE.no 50 61 (by kernel_rfl) hS86 ?_
                refine AnyE.no 51 62 (by kernel_rfl) hS86 ?_
                refine AnyE.no 52 63 (by kernel_rfl) hS86 ?_
                refine AnyE.pure 53 64 (.bool false) (by kernel_rfl) hS86 (fun _ => by kernel_rfl) ?_
                refine AnyE.pure 54 0 (.bool false) (by kernel_rfl) hS86 (fun _ => by kernel_rfl) ?_
                refine AnyE.done (by kernel_rfl) (fun w109 hu110 => ?_)
                have h111 := h79.call hu110
                refine RunsI.only [0] [(0, .bool false)] (by kernel_rfl) (by kernel_rfl) ?_
                refine RunsI.ret (.bool false) (by kernel_rfl) (by kernel_rfl) ?_
                obtain rfl := Option.some.inj h
                exact ⟨rfl, h111.below⟩
            · skip
              refine AnyE.fix 47 false hc87 (by kernel_rfl) (by kernel_rfl) ?_
              refine AnyE.no 37 48 (by kernel_rfl) hS86 ?_
              refine AnyE.no 38 49 (by kernel_rfl) hS86 ?_
              refine AnyE.no 39 50 (by kernel_rfl) hS86 ?_
              refine AnyE.no 40 51 (by kernel_rfl) hS86 ?_
              refine AnyE.pure 41 52 (.bool false) (by kernel_rfl) hS86 (fun _ => by kernel_rfl) ?_
              refine AnyE.pure 42 53 (.bool false) (by kernel_rfl) hS86 (fun _ => by kernel_rfl) ?_
              refine AnyE.no 43 54 (by kernel_rfl) hS86 ?_
              refine AnyE.no 44 55 (by kernel_rfl) hS86 ?_
              refine AnyE.no 45 56 (by kernel_rfl) hS86 ?_
              refine AnyE.pure 46 57 (.bool false) (by kernel_rfl) hS86 (fun _ => by kernel_rfl) ?_
              refine AnyE.pure 47 58 (.bool false) (by kernel_rfl) hS86 (fun _ => by kernel_rfl) ?_
              refine AnyE.no 48 59 (by kernel_rfl) hS86 ?_
              refine AnyE.no 49 60 (by kernel_rfl) hS86 ?_
              refine AnyE.no 50 61 (by kernel_rfl) hS86 ?_
              refine AnyE.no 51 62 (by kernel_rfl) hS86 ?_
              refine AnyE.no 52 63 (by kernel_rfl) hS86 ?_
              refine AnyE.pure 53 64 (.bool false) (by kernel_rfl) hS86 (fun _ => by kernel_rfl) ?_
              refine AnyE.pure 54 0 (.bool false) (by kernel_rfl) hS86 (fun _ => by kernel_rfl) ?_
              refine AnyE.done (by kernel_rfl) (fun w112 hu113 => ?_)
              have h114 := h79.call hu113
              refine RunsI.only [0] [(0, .bool false)] (by kernel_rfl) (by kernel_rfl) ?_
              refine RunsI.ret (.bool false) (by kernel_rfl) (by kernel_rfl) ?_
              obtain rfl := Option.some.inj h
              exact ⟨rfl, h114.below⟩
          · skip
            refine AnyE.fix 41 false hc72 (by kernel_rfl) (by kernel_rfl) ?_
            refine AnyE.no 31 42 (by kernel_rfl) hS71 ?_
            refine AnyE.no 32 43 (by kernel_rfl) hS71 ?_
            refine AnyE.no 33 44 (by kernel_rfl) hS71 ?_
            refine AnyE.no 34 45 (by kernel_rfl) hS71 ?_
            refine AnyE.pure 35 46 (.bool false) (by kernel_rfl) hS71 (fun _ => by kernel_rfl) ?_
            refine AnyE.pure 36 47 (.bool false) (by kernel_rfl) hS71 (fun _ => by kernel_rfl) ?_
            refine AnyE.no 37 48 (by kernel_rfl) hS71 ?_
            refine AnyE.no 38 49 (by kernel_rfl) hS71 ?_
            refine AnyE.no 39 50 (by kernel_rfl) hS71 ?_
            refine AnyE.no 40 51 (by kernel_rfl) hS71 ?_
            refine AnyE.pure 41 52 (.bool false) (by kernel_rfl) hS71 (fun _ => by kernel_rfl) ?_
            refine AnyE.pure 42 53 (.bool false) (by kernel_rfl) hS71 (fun _ => by kernel_rfl) ?_
            refine AnyE.no 43 54 (by kernel_rfl) hS71 ?_
            refine AnyE.no 44 55 (by kernel_rfl) hS71 ?_
            refine AnyE.no 45 56 (by kernel_rfl) hS71 ?_
            refine AnyE.pure 46 57 (.bool false) (by kernel_rfl) hS71 (fun _ => by kernel_rfl) ?_
            refine AnyE.pure 47 58 (.bool false) (by kernel_rfl) hS71 (fun _ => by kernel_rfl) ?_
            refine AnyE.no 48 59 (by kernel_rfl) hS71 ?_
            refine AnyE.no 49 60 (by kernel_rfl) hS71 ?_
            refine AnyE.no 50 61 (by kernel_rfl) hS71 ?_
            refine AnyE.no 51 62 (by kernel_rfl) hS71 ?_
            refine AnyE.no 52 63 (by kernel_rfl) hS71 ?_
            refine AnyE.pure 53 64 (.bool false) (by kernel_rfl) hS71 (fun _ => by kernel_rfl) ?_
            refine AnyE.pure 54 0 (.bool false) (by kernel_rfl) hS71 (fun _ => by kernel_rfl) ?_
            refine AnyE.done (by kernel_rfl) (fun w115 hu116 => ?_)
            have h117 := h68.call hu116
            refine RunsI.only [0] [(0, .bool false)] (by kernel_rfl) (by kernel_rfl) ?_
            refine RunsI.ret (.bool false) (by kernel_rfl) (by kernel_rfl) ?_
            obtain rfl := Option.some.inj h
            exact ⟨rfl, h117.below⟩
        · skip
          refine AnyE.fix 34 false hc41 (by kernel_rfl) (by kernel_rfl) ?_
          refine AnyE.no 24 35 (by kernel_rfl) hS27 ?_
          refine AnyE.no 25 36 (by kernel_rfl) hS27 ?_
          refine AnyE.no 26 37 (by kernel_rfl) hS27 ?_
          refine AnyE.no 27 38 (by kernel_rfl) hS27 ?_
          refine AnyE.no 28 39 (by kernel_rfl) hS27 ?_
          refine AnyE.pure 29 40 (.bool false) (by kernel_rfl) hS27 (fun _ => by kernel_rfl) ?_
          refine AnyE.pure 30 41 (.bool false) (by kernel_rfl) hS27 (fun _ => by kernel_rfl) ?_
          refine AnyE.no 31 42 (by kernel_rfl) hS27 ?_
          refine AnyE.no 32 43 (by kernel_rfl) hS27 ?_
          refine AnyE.no 33 44 (by kernel_rfl) hS27 ?_
          refine AnyE.no 34 45 (by kernel_rfl) hS27 ?_
          refine AnyE.pure 35 46 (.bool false) (by kernel_rfl) hS27 (fun _ => by kernel_rfl) ?_
          refine AnyE.pure 36 47 (.bool false) (by kernel_rfl) hS27 (fun _ => by kernel_rfl) ?_
          refine AnyE.no 37 48 (by kernel_rfl) hS27 ?_
          refine AnyE.no 38 49 (by kernel_rfl) hS27 ?_
          refine AnyE.no 39 50 (by kernel_rfl) hS27 ?_
          refine AnyE.no 40 51 (by kernel_rfl) hS27 ?_
          refine AnyE.pure 41 52 (.bool false) (by kernel_rfl) hS27 (fun _ => by kernel_rfl) ?_
          refine AnyE.pure 42 53 (.bool false) (by kernel_rfl) hS27 (fun _ => by kernel_rfl) ?_
          refine AnyE.no 43 54 (by kernel_rfl) hS27 ?_
          refine AnyE.no 44 55 (by kernel_rfl) hS27 ?_
          refine AnyE.no 45 56 (by kernel_rfl) hS27 ?_
          refine AnyE.pure 46 57 (.bool false) (by kernel_rfl) hS27 (fun _ => by kernel_rfl) ?_
          refine AnyE.pure 47 58 (.bool false) (by kernel_rfl) hS27 (fun _ => by kernel_rfl) ?_
          refine AnyE.no 48 59 (by kernel_rfl) hS27 ?_
          refine AnyE.no 49 60 (by kernel_rfl) hS27 ?_
          refine AnyE.no 50 61 (by kernel_rfl) hS27 ?_
          refine AnyE.no 51 62 (by kernel_rfl) hS27 ?_
          refine AnyE.no 52 63 (by kernel_rfl) hS27 ?_
          refine AnyE.pure 53 64 (.bool false) (by kernel_rfl) hS27 (fun _ => by kernel_rfl) ?_
          refine AnyE.pure 54 0 (.bool false) (by kernel_rfl) hS27 (fun _ => by kernel_rfl) ?_
          refine AnyE.done (by kernel_rfl) (fun w118 hu119 => ?_)
          have h120 := h38.call hu119
          refine RunsI.only [0] [(0, .bool false)] (by kernel_rfl) (by kernel_rfl) ?_
          refine RunsI.ret (.bool false) (by kernel_rfl) (by kernel_rfl) ?_
          obtain rfl := Option.some.inj h
          exact ⟨rfl, h120.below⟩
      · skip
        refine AnyE.fix 27 false hc34 (by kernel_rfl) (by kernel_rfl) ?_
        refine AnyE.no 17 28 (by kernel_rfl) hS27 ?_
        refine AnyE.no 18 29 (by kernel_rfl) hS27 ?_
        refine AnyE.no 19 30 (by kernel_rfl) hS27 ?_
        refine AnyE.no 20 31 (by kernel_rfl) hS27 ?_
        refine AnyE.no 21 32 (by kernel_rfl) hS27 ?_
        refine AnyE.pure 22 33 (.bool false) (by kernel_rfl) hS27 (fun _ => by kernel_rfl) ?_
        refine AnyE.pure 23 34 (.bool false) (by kernel_rfl) hS27 (fun _ => by kernel_rfl) ?_
        refine AnyE.no 24 35 (by kernel_rfl) hS27 ?_
        refine AnyE.no 25 36 (by kernel_rfl) hS27 ?_
        refine AnyE.no 26 37 (by kernel_rfl) hS27 ?_
        refine AnyE.no 27 38 (by kernel_rfl) hS27 ?_
        refine AnyE.no 28 39 (by kernel_rfl) hS27 ?_
        refine AnyE.pure 29 40 (.bool false) (by kernel_rfl) hS27 (fun _ => by kernel_rfl) ?_
        refine AnyE.pure 30 41 (.bool false) (by kernel_rfl) hS27 (fun _ => by kernel_rfl) ?_
        refine AnyE.no 31 42 (by kernel_rfl) hS27 ?_
        refine AnyE.no 32 43 (by kernel_rfl) hS27 ?_
        refine AnyE.no 33 44 (by kernel_rfl) hS27 ?_
        refine AnyE.no 34 45 (by kernel_rfl) hS27 ?_
        refine AnyE.pure 35 46 (.bool false) (by kernel_rfl) hS27 (fun _ => by kernel_rfl) ?_
        refine AnyE.pure 36 47 (.bool false) (by kernel_rfl) hS27 (fun _ => by kernel_rfl) ?_
        refine AnyE.no 37 48 (by kernel_rfl) hS27 ?_
        refine AnyE.no 38 49 (by kernel_rfl) hS27 ?_
        refine AnyE.no 39 50 (by kernel_rfl) hS27 ?_
        refine AnyE.no 40 51 (by kernel_rfl) hS27 ?_
        refine AnyE.pure 41 52 (.bool false) (by kernel_rfl) hS27 (fun _ => by kernel_rfl) ?_
        refine AnyE.pure 42 53 (.bool false) (by kernel_rfl) hS27 (fun _ => by kernel_rfl) ?_
        refine AnyE.no 43 54 (by kernel_rfl) hS27 ?_
        refine AnyE.no 44 55 (by kernel_rfl) hS27 ?_
        refine AnyE.no 45 56 (by kernel_rfl) hS27 ?_
        refine AnyE.pure 46 57 (.bool false) (by kernel_rfl) hS27 (fun _ => by kernel_rfl) ?_
        refine AnyE.pure 47 58 (.bool false) (by kernel_rfl) hS27 (fun _ => by kernel_rfl) ?_
        refine AnyE.no 48 59 (by kernel_rfl) hS27 ?_
        refine AnyE.no 49 60 (by kernel_rfl) hS27 ?_
        refine AnyE.no 50 61 (by kernel_rfl) hS27 ?_
        refine AnyE.no 51 62 (by kernel_rfl) hS27 ?_
        refine AnyE.no 52 63 (by kernel_rfl) hS27 ?_
        refine AnyE.pure 53 64 (.bool false) (by kernel_rfl) hS27 (fun _ => by kernel_rfl) ?_
        refine AnyE.pure 54 0 (.bool false) (by kernel_rfl) hS27 (fun _ => by kernel_rfl) ?_
        refine AnyE.done (by kernel_rfl) (fun w121 hu122 => ?_)
        have h123 := h26.call hu122
        refine RunsI.only [0] [(0, .bool false)] (by kernel_rfl) (by kernel_rfl) ?_
        refine RunsI.ret (.bool false) (by kernel_rfl) (by kernel_rfl) ?_
        obtain rfl := Option.some.inj h
        exact ⟨rfl, h123.below⟩
    · skip
      refine AnyE.fix 21 false hc31 (by kernel_rfl) (by kernel_rfl) ?_
      refine AnyE.no 11 22 (by kernel_rfl) hS27 ?_
      refine AnyE.no 12 23 (by kernel_rfl) hS27 ?_
      refine AnyE.no 13 24 (by kernel_rfl) hS27 ?_
      refine AnyE.no 14 25 (by kernel_rfl) hS27 ?_
      refine AnyE.pure 15 26 (.bool false) (by kernel_rfl) hS27 (fun _ => by kernel_rfl) ?_
      refine AnyE.pure 16 27 (.bool false) (by kernel_rfl) hS27 (fun _ => by kernel_rfl) ?_
      refine AnyE.no 17 28 (by kernel_rfl) hS27 ?_
      refine AnyE.no 18 29 (by kernel_rfl) hS27 ?_
      refine AnyE.no 19 30 (by kernel_rfl) hS27 ?_
      refine AnyE.no 20 31 (by kernel_rfl) hS27 ?_
      refine AnyE.no 21 32 (by kernel_rfl) hS27 ?_
      refine AnyE.pure 22 33 (.bool false) (by kernel_rfl) hS27 (fun _ => by kernel_rfl) ?_
      refine AnyE.pure 23 34 (.bool false) (by kernel_rfl) hS27 (fun _ => by kernel_rfl) ?_
      refine AnyE.no 24 35 (by kernel_rfl) hS27 ?_
      refine AnyE.no 25 36 (by kernel_rfl) hS27 ?_
      refine AnyE.no 26 37 (by kernel_rfl) hS27 ?_
      refine AnyE.no 27 38 (by kernel_rfl) hS27 ?_
      refine AnyE.no 28 39 (by kernel_rfl) hS27 ?_
      refine AnyE.pure 29 40 (.bool false) (by kernel_rfl) hS27 (fun _ => by kernel_rfl) ?_
      refine AnyE.pure 30 41 (.bool false) (by kernel_rfl) hS27 (fun _ => by kernel_rfl) ?_
      refine AnyE.no 31 42 (by kernel_rfl) hS27 ?_
      refine AnyE.no 32 43 (by kernel_rfl) hS27 ?_
      refine AnyE.no 33 44 (by kernel_rfl) hS27 ?_
      refine AnyE.no 34 45 (by kernel_rfl) hS27 ?_
      refine AnyE.pure 35 46 (.bool false) (by kernel_rfl) hS27 (fun _ => by kernel_rfl) ?_
      refine AnyE.pure 36 47 (.bool false) (by kernel_rfl) hS27 (fun _ => by kernel_rfl) ?_
      refine AnyE.no 37 48 (by kernel_rfl) hS27 ?_
      refine AnyE.no 38 49 (by kernel_rfl) hS27 ?_
      refine AnyE.no 39 50 (by kernel_rfl) hS27 ?_
      refine AnyE.no 40 51 (by kernel_rfl) hS27 ?_
      refine AnyE.pure 41 52 (.bool false) (by kernel_rfl) hS27 (fun _ => by kernel_rfl) ?_
      refine AnyE.pure 42 53 (.bool false) (by kernel_rfl) hS27 (fun _ => by kernel_rfl) ?_
      refine AnyE.no 43 54 (by kernel_rfl) hS27 ?_
      refine AnyE.no 44 55 (by kernel_rfl) hS27 ?_
      refine AnyE.no 45 56 (by kernel_rfl) hS27 ?_
      refine AnyE.pure 46 57 (.bool false) (by kernel_rfl) hS27 (fun _ => by kernel_rfl) ?_
      refine AnyE.pure 47 58 (.bool false) (by kernel_rfl) hS27 (fun _ => by kernel_rfl) ?_
      refine AnyE.no 48 59 (by kernel_rfl) hS27 ?_
      refine AnyE.no 49 60 (by kernel_rfl) hS27 ?_
      refine AnyE.no 50 61 (by kernel_rfl) hS27 ?_
      refine AnyE.no 51 62 (by kernel_rfl) hS27 ?_
      refine AnyE.no 52 63 (by kernel_rfl) hS27 ?_
      refine AnyE.pure 53 64 (.bool false) (by kernel_rfl) hS27 (fun _ => by kernel_rfl) ?_
      refine AnyE.pure 54 0 (.bool false) (by kernel_rfl) hS27 (fun _ => by kernel_rfl) ?_
      refine AnyE.done (by kernel_rfl) (fun w124 hu125 => ?_)
      have h126 := h26.call hu125
      refine RunsI.only [0] [(0, .bool false)] (by kernel_rfl) (by kernel_rfl) ?_
      refine RunsI.ret (.bool false) (by kernel_rfl) (by kernel_rfl) ?_
      obtain rfl := Option.some.inj h
      exact ⟨rfl, h126.below⟩
  · skip
    refine AnyE.fix 14 false hc29 (by kernel_rfl) (by kernel_rfl) ?_
    refine AnyE.no 4 15 (by kernel_rfl) hS27 ?_
    refine AnyE.no 5 16 (by kernel_rfl) hS27 ?_
    refine AnyE.no 6 17 (by kernel_rfl) hS27 ?_
    refine AnyE.no 7 18 (by kernel_rfl) hS27 ?_
    refine AnyE.no 8 19 (by kernel_rfl) hS27 ?_
    refine AnyE.pure 9 20 (.bool false) (by kernel_rfl) hS27 (fun _ => by kernel_rfl) ?_
    refine AnyE.pure 10 21 (.bool false) (by kernel_rfl) hS27 (fun _ => by kernel_rfl) ?_
    refine AnyE.no 11 22 (by kernel_rfl) hS27 ?_
    refine AnyE.no 12 23 (by kernel_rfl) hS27 ?_
    refine AnyE.no 13 24 (by kernel_rfl) hS27 ?_
    refine AnyE.no 14 25 (by kernel_rfl) hS27 ?_
    refine AnyE.pure 15 26 (.bool false) (by kernel_rfl) hS27 (fun _ => by kernel_rfl) ?_
    refine AnyE.pure 16 27 (.bool false) (by kernel_rfl) hS27 (fun _ => by kernel_rfl) ?_
    refine AnyE.no 17 28 (by kernel_rfl) hS27 ?_
    refine AnyE.no 18 29 (by kernel_rfl) hS27 ?_
    refine AnyE.no 19 30 (by kernel_rfl) hS27 ?_
    refine AnyE.no 20 31 (by kernel_rfl) hS27 ?_
    refine AnyE.no 21 32 (by kernel_rfl) hS27 ?_
    refine AnyE.pure 22 33 (.bool false) (by kernel_rfl) hS27 (fun _ => by kernel_rfl) ?_
    refine AnyE.pure 23 34 (.bool false) (by kernel_rfl) hS27 (fun _ => by kernel_rfl) ?_
    refine AnyE.no 24 35 (by kernel_rfl) hS27 ?_
    refine AnyE.no 25 36 (by kernel_rfl) hS27 ?_
    refine AnyE.no 26 37 (by kernel_rfl) hS27 ?_
    refine AnyE.no 27 38 (by kernel_rfl) hS27 ?_
    refine AnyE.no 28 39 (by kernel_rfl) hS27 ?_
    refine AnyE.pure 29 40 (.bool false) (by kernel_rfl) hS27 (fun _ => by kernel_rfl) ?_
    refine AnyE.pure 30 41 (.bool false) (by kernel_rfl) hS27 (fun _ => by kernel_rfl) ?_
    refine AnyE.no 31 42 (by kernel_rfl) hS27 ?_
    refine AnyE.no 32 43 (by kernel_rfl) hS27 ?_
    refine AnyE.no 33 44 (by kernel_rfl) hS27 ?_
    refine AnyE.no 34 45 (by kernel_rfl) hS27 ?_
    refine AnyE.pure 35 46 (.bool false) (by kernel_rfl) hS27 (fun _ => by kernel_rfl) ?_
    refine AnyE.pure 36 47 (.bool false) (by kernel_rfl) hS27 (fun _ => by kernel_rfl) ?_
    refine AnyE.no 37 48 (by kernel_rfl) hS27 ?_
    refine AnyE.no 38 49 (by kernel_rfl) hS27 ?_
    refine AnyE.no 39 50 (by kernel_rfl) hS27 ?_
    refine AnyE.no 40 51 (by kernel_rfl) hS27 ?_
    refine AnyE.pure 41 52 (.bool false) (by kernel_rfl) hS27 (fun _ => by kernel_rfl) ?_
    refine AnyE.pure 42 53 (.bool false) (by kernel_rfl) hS27 (fun _ => by kernel_rfl) ?_
    refine AnyE.no 43 54 (by kernel_rfl) hS27 ?_
    refine AnyE.no 44 55 (by kernel_rfl) hS27 ?_
    refine AnyE.no 45 56 (by kernel_rfl) hS27 ?_
    refine AnyE.pure 46 57 (.bool false) (by kernel_rfl) hS27 (fun _ => by kernel_rfl) ?_
    refine AnyE.pure 47 58 (.bool false) (by kernel_rfl) hS27 (fun _ => by kernel_rfl) ?_
    refine AnyE.no 48 59 (by kernel_rfl) hS27 ?_
    refine AnyE.no 49 60 (by kernel_rfl) hS27 ?_
    refine AnyE.no 50 61 (by kernel_rfl) hS27 ?_
    refine AnyE.no 51 62 (by kernel_rfl) hS27 ?_
    refine AnyE.no 52 63 (by kernel_rfl) hS27 ?_
    refine AnyE.pure 53 64 (.bool false) (by kernel_rfl) hS27 (fun _ => by kernel_rfl) ?_
    refine AnyE.pure 54 0 (.bool false) (by kernel_rfl) hS27 (fun _ => by kernel_rfl) ?_
    refine AnyE.done (by kernel_rfl) (fun w127 hu128 => ?_)
    have h129 := h26.call hu128
    refine RunsI.only [0] [(0, .bool false)] (by kernel_rfl) (by kernel_rfl) ?_
    refine RunsI.ret (.bool false) (by kernel_rfl) (by kernel_rfl) ?_
    obtain rfl := Option.some.inj h
    exact ⟨rfl, h129.below⟩
end

/-! ### charabanc/charabanclaw29.few (function 10) -/
section
def charabanclaw29_few_10.post (M0 : Nat → Prop) (w0 : World) (r : Bool) : Ending → World → Prop := fun e w => e = .returned (.bool r) ∧ Below w0.heap.size w0 w
def charabanclaw29_few_10.f (K : Nat) (p0_0 : List Int) (p0_1 : Int) (p0_2 : Int) (p0_3 : List (Int × Int)) : Option Bool := cond (decide ((p0_0.length : Int) ≤ 600)) (some (decide ((p0_3.length : Int) ≤ 60))) (some false)
set_option maxRecDepth 100000 in
theorem charabanclaw29_few_10_ok (K : Nat) (M0 : Nat → Prop) (w0 : World) (pA0_0 : Option Addr) (pc0_0 : Nat) (pA0_3 : Option Addr) (pc0_3 : Nat) (p0_0 : List Int) (p0_1 : Int) (p0_2 : Int) (p0_3 : List (Int × Int)) (ho : ∀ b, M0 b → b < w0.heap.size) (hs0_0 : Sl (Rp.int .u8) w0 M0 (.slice pA0_0 p0_0.length pc0_0) p0_0) (hs0_3 : Sl (Rp.pair (Rp.int .i64) (Rp.int .u8)) w0 M0 (.slice pA0_3 p0_3.length pc0_3) p0_3) {r : Bool} (h : charabanclaw29_few_10.f K p0_0 p0_1 p0_2 p0_3 = some r) :
    Calls Tryd.prog 10 #[.agg #[.slice pA0_0 p0_0.length pc0_0, .int .i64 p0_1, .int .i64 p0_2, .slice pA0_3 p0_3.length pc0_3]] w0 (charabanclaw29_few_10.post M0 w0 r) := by
  unfold charabanclaw29_few_10.f at h
  have h0 : Holds M0 w0 w0 [] := Holds.start ho
  have h00_0 := h0.addSl (Rp.int .u8) (.slice pA0_0 p0_0.length pc0_0) p0_0 (hs0_0.mono (fun _ _ hm => hm.elim id (fun hm => absurd hm (by simp [mines, sl]))))
  have h00_3 := h00_0.addSl (Rp.pair (Rp.int .i64) (Rp.int .u8)) (.slice pA0_3 p0_3.length pc0_3) p0_3 (hs0_3.mono (fun _ _ hm => hm.elim id (fun hm => absurd hm (by simp [mines, sl]))))
  have h0 : Holds M0 w0 w0 [sl (Rp.int .u8) (.slice pA0_0 p0_0.length pc0_0) p0_0, sl (Rp.pair (Rp.int .i64) (Rp.int .u8)) (.slice pA0_3 p0_3.length pc0_3) p0_3] := h00_3
  refine calls_of F10 rfl [.agg #[.slice pA0_0 p0_0.length pc0_0, .int .i64 p0_1, .int .i64 p0_2, .slice pA0_3 p0_3.length pc0_3]] (by kernel_rfl) ?_
  refine RunsI.go 1 [.c 1, .c 2] (by kernel_rfl) ?_
  refine RunsI.region (by kernel_rfl) ?_
  refine RegI.op (by kernel_rfl) (OpE.box 1 25 [.slice pA0_0 p0_0.length pc0_0, .int .i64 p0_1, .int .i64 p0_2, .slice pA0_3 p0_3.length pc0_3] h0 (by kernel_rfl) (by kernel_rfl) ?_)
  intro w1 b2 h3 hb4 hn5
  refine RegI.pure 1 [1] [(1, .pointer (some ⟨b2, 0, none⟩))] (by kernel_rfl) ?_
  refine RegI.done (by kernel_rfl) ?_
  refine RunsI.go 1 [.c 3, .c 4] (by kernel_rfl) ?_
  refine RunsI.region (by kernel_rfl) ?_
  refine RegI.pure 1 [1, 3] [(1, .pointer (some ⟨b2, 0, none⟩)), (3, .pointer (some ⟨b2, 0, none⟩))] (by kernel_rfl) ?_
  refine RegI.op (by kernel_rfl) (OpE.loadBox 4 2 22 b2 0 (.slice pA0_0 p0_0.length pc0_0) h3 (by kernel_rfl) (by kernel_rfl) rfl (by kernel_rfl) ?_)
  refine RegI.pure 3 [1, 7] [(1, .pointer (some ⟨b2, 0, none⟩)), (7, .bool (decide ((p0_0.length : Int) ≤ 600)))] (by kernel_rfl) ?_
  rcases of_cond h with ⟨hc6, h⟩ | ⟨hc6, h⟩
  · skip
    refine RegI.fix 7 true hc6 (by kernel_rfl) (by kernel_rfl) ?_
    refine RegI.pure 1 [7, 8] [(7, .bool true), (8, .pointer (some ⟨b2, 3, none⟩))] (by kernel_rfl) ?_
    refine RegI.op (by kernel_rfl) (OpE.loadBox 9 2 23 b2 3 (.slice pA0_3 p0_3.length pc0_3) h3 (by kernel_rfl) (by kernel_rfl) rfl (by kernel_rfl) ?_)
    refine RegI.pure 4 [2] [(2, .bool (decide ((p0_3.length : Int) ≤ 60)))] (by kernel_rfl) ?_
    refine RegI.done (by kernel_rfl) ?_
    refine RunsI.ret (.bool (decide ((p0_3.length : Int) ≤ 60))) (by kernel_rfl) (by kernel_rfl) ?_
    obtain rfl := Option.some.inj h
    exact ⟨rfl, h3.below⟩
  · skip
    refine RegI.fix 7 false hc6 (by kernel_rfl) (by kernel_rfl) ?_
    refine RegI.pure 6 [2] [(2, .bool false)] (by kernel_rfl) ?_
    refine RegI.done (by kernel_rfl) ?_
    refine RunsI.ret (.bool false) (by kernel_rfl) (by kernel_rfl) ?_
    obtain rfl := Option.some.inj h
    exact ⟨rfl, h3.below⟩
end

/-! ### charabanc/charabancref19.Where (function 84) -/
section
def charabancref19_Where_84.post (M0 : Nat → Prop) (w0 : World) (r : Int × Bool) : Ending → World → Prop := fun e w => e = .returned (.tuple #[.int .i64 r.1, .bool r.2]) ∧ Below w0.heap.size w0 w
def charabancref19_Where_84.f (K : Nat) (p0_0 : List Int) (p0_1 : Int) (p0_2 : Int) (p0_3 : List (Int × Int)) (p1 : Int) : Option (Int × Bool) := cond (decide ((IntKind.wrap .i64 p1) < (p0_0.length : Int))) (some (0, false)) (Let (fun (t8 : Bool) => cond t8 (some ((IntKind.wrap .i64 ((IntKind.wrap .i64 ((IntKind.wrap .i64 (65536 + (IntKind.wrap .i64 (16384 * p0_2)))) + (IntKind.wrap .i64 p1))) - 32768)), true)) (some ((IntKind.wrap .i64 p1), true))) (fun j11 => cond (decide ((IntKind.wrap .i64 p1) ≥ 32768)) (j11 (decide ((IntKind.wrap .i64 p1) < 49152))) (j11 false)))
set_option maxRecDepth 100000 in
theorem charabancref19_Where_84_ok (K : Nat) (M0 : Nat → Prop) (w0 : World) (pA0_0 : Option Addr) (pc0_0 : Nat) (pA0_3 : Option Addr) (pc0_3 : Nat) (p0_0 : List Int) (p0_1 : Int) (p0_2 : Int) (p0_3 : List (Int × Int)) (p1 : Int) (ho : ∀ b, M0 b → b < w0.heap.size) (hs0_0 : Sl (Rp.int .u8) w0 M0 (.slice pA0_0 p0_0.length pc0_0) p0_0) (hs0_3 : Sl (Rp.pair (Rp.int .i64) (Rp.int .u8)) w0 M0 (.slice pA0_3 p0_3.length pc0_3) p0_3) {r : Int × Bool} (h : charabancref19_Where_84.f K p0_0 p0_1 p0_2 p0_3 p1 = some r) :
    Calls Tryd.prog 84 #[.agg #[.slice pA0_0 p0_0.length pc0_0, .int .i64 p0_1, .int .i64 p0_2, .slice pA0_3 p0_3.length pc0_3], .int .u16 p1] w0 (charabancref19_Where_84.post M0 w0 r) := by
  unfold charabancref19_Where_84.f at h
  have h0 : Holds M0 w0 w0 [] := Holds.start ho
  have h00_0 := h0.addSl (Rp.int .u8) (.slice pA0_0 p0_0.length pc0_0) p0_0 (hs0_0.mono (fun _ _ hm => hm.elim id (fun hm => absurd hm (by simp [mines, sl]))))
  have h00_3 := h00_0.addSl (Rp.pair (Rp.int .i64) (Rp.int .u8)) (.slice pA0_3 p0_3.length pc0_3) p0_3 (hs0_3.mono (fun _ _ hm => hm.elim id (fun hm => absurd hm (by simp [mines, sl]))))
  have h0 : Holds M0 w0 w0 [sl (Rp.int .u8) (.slice pA0_0 p0_0.length pc0_0) p0_0, sl (Rp.pair (Rp.int .i64) (Rp.int .u8)) (.slice pA0_3 p0_3.length pc0_3) p0_3] := h00_3
  refine calls_of F84 rfl [.agg #[.slice pA0_0 p0_0.length pc0_0, .int .i64 p0_1, .int .i64 p0_2, .slice pA0_3 p0_3.length pc0_3], .int .u16 p1] (by kernel_rfl) ?_
  refine RunsI.go 1 [.c 1, .c 2] (by kernel_rfl) ?_
  refine RunsI.region (by kernel_rfl) ?_
  refine RegI.op (by kernel_rfl) (OpE.box 2 31 [.slice pA0_0 p0_0.length pc0_0, .int .i64 p0_1, .int .i64 p0_2, .slice pA0_3 p0_3.length pc0_3] h0 (by kernel_rfl) (by kernel_rfl) ?_)
  intro w1 b2 h3 hb4 hn5
  refine RegI.pure 2 [1, 2] [(1, .int .u16 p1), (2, .pointer (some ⟨b2, 0, none⟩))] (by kernel_rfl) ?_
  refine RegI.done (by kernel_rfl) ?_
  refine RunsI.go 1 [.c 3, .c 4] (by kernel_rfl) ?_
  refine RunsI.region (by kernel_rfl) ?_
  refine RegI.pure 3 [2, 6] [(2, .pointer (some ⟨b2, 0, none⟩)), (6, .int .i64 (IntKind.wrap .i64 p1))] (by kernel_rfl) ?_
  refine RegI.done (by kernel_rfl) ?_
  refine RunsI.go 2 [.c 6, .c 7, .c 12] (by kernel_rfl) ?_
  refine RunsI.region (by kernel_rfl) ?_
  refine RegI.pure 2 [2, 6, 9, 10] [(2, .pointer (some ⟨b2, 0, none⟩)), (6, .int .i64 (IntKind.wrap .i64 p1)), (9, .int .i64 (IntKind.wrap .i64 p1)), (10, .pointer (some ⟨b2, 0, none⟩))] (by kernel_rfl) ?_
  refine RegI.op (by kernel_rfl) (OpE.loadBox 11 2 22 b2 0 (.slice pA0_0 p0_0.length pc0_0) h3 (by kernel_rfl) (by kernel_rfl) rfl (by kernel_rfl) ?_)
  refine RegI.pure 2 [2, 6, 13] [(2, .pointer (some ⟨b2, 0, none⟩)), (6, .int .i64 (IntKind.wrap .i64 p1)), (13, .bool (decide ((IntKind.wrap .i64 p1) < (p0_0.length : Int))))] (by kernel_rfl) ?_
  refine RegI.done (by kernel_rfl) ?_
  rcases of_cond h with ⟨hc6, h⟩ | ⟨hc6, h⟩
  · skip
    refine RunsI.fix 13 true hc6 (by kernel_rfl) (by kernel_rfl) ?_
    refine RunsI.cond true 8 (by kernel_rfl) ?_
    refine RunsI.go 1 [.c 9, .c 10, .c 12] (by kernel_rfl) ?_
    refine RunsI.region (by kernel_rfl) ?_
    refine RegI.pure 2 [4, 5] [(4, .int .i64 0), (5, .bool false)] (by kernel_rfl) ?_
    refine RegI.done (by kernel_rfl) ?_
    refine RunsI.ret (.tuple #[.int .i64 0, .bool false]) (by kernel_rfl) (by kernel_rfl) ?_
    obtain rfl := Option.some.inj h
    exact ⟨rfl, h3.below⟩
  · skip
    refine RunsI.fix 13 false hc6 (by kernel_rfl) (by kernel_rfl) ?_
    refine RunsI.cond false 11 (by kernel_rfl) ?_
    refine RunsI.go 1 [.c 12] (by kernel_rfl) ?_
    refine RunsI.go 2 [.c 14, .c 15, .c 20] (by kernel_rfl) ?_
    refine RunsI.region (by kernel_rfl) ?_
    refine RegI.pure 3 [2, 6, 16] [(2, .pointer (some ⟨b2, 0, none⟩)), (6, .int .i64 (IntKind.wrap .i64 p1)), (16, .bool (decide ((IntKind.wrap .i64 p1) ≥ 32768)))] (by kernel_rfl) ?_
    obtain ⟨j11, hJ12, h⟩ := of_let h
    have hj13 : ∀ (t8 : Bool) (w10 : World), j11 t8 = some r → Holds M0 w0 w10 [box b2 31 [.slice pA0_0 p0_0.length pc0_0, .int .i64 p0_1, .int .i64 p0_2, .slice pA0_3 p0_3.length pc0_3], sl (Rp.int .u8) (.slice pA0_0 p0_0.length pc0_0) p0_0, sl (Rp.pair (Rp.int .i64) (Rp.int .u8)) (.slice pA0_3 p0_3.length pc0_3) p0_3] → RegI F84 14 [.c 15, .c 20] 6 [(2, .pointer (some ⟨b2, 0, none⟩)), (6, .int .i64 (IntKind.wrap .i64 p1)), (19, .bool t8)] w10 (charabancref19_Where_84.post M0 w0 r) := by
      intro t8 w10 h h9
      rw [hJ12] at h
      clear hJ12
      dsimp only at h
      refine RegI.done (by kernel_rfl) ?_
      rcases of_cond h with ⟨hc14, h⟩ | ⟨hc14, h⟩
      · skip
        refine RunsI.fix 19 true hc14 (by kernel_rfl) (by kernel_rfl) ?_
        refine RunsI.cond true 16 (by kernel_rfl) ?_
        refine RunsI.go 1 [.c 17, .c 18, .c 20] (by kernel_rfl) ?_
        refine RunsI.region (by kernel_rfl) ?_
        refine RegI.pure 1 [6, 20] [(6, .int .i64 (IntKind.wrap .i64 p1)), (20, .pointer (some ⟨b2, 2, none⟩))] (by kernel_rfl) ?_
        refine RegI.op (by kernel_rfl) (OpE.loadBox 21 0 3 b2 2 (.int .i64 p0_2) h9 (by kernel_rfl) (by kernel_rfl) rfl (by kernel_rfl) ?_)
        refine RegI.pure 7 [4, 5] [(4, .int .i64 (IntKind.wrap .i64 ((IntKind.wrap .i64 ((IntKind.wrap .i64 (65536 + (IntKind.wrap .i64 (16384 * p0_2)))) + (IntKind.wrap .i64 p1))) - 32768))), (5, .bool true)] (by kernel_rfl) ?_
        refine RegI.done (by kernel_rfl) ?_
        refine RunsI.ret (.tuple #[.int .i64 (IntKind.wrap .i64 ((IntKind.wrap .i64 ((IntKind.wrap .i64 (65536 + (IntKind.wrap .i64 (16384 * p0_2)))) + (IntKind.wrap .i64 p1))) - 32768)), .bool true]) (by kernel_rfl) (by kernel_rfl) ?_
        obtain rfl := Option.some.inj h
        exact ⟨rfl, h9.below⟩
      · skip
        refine RunsI.fix 19 false hc14 (by kernel_rfl) (by kernel_rfl) ?_
        refine RunsI.cond false 19 (by kernel_rfl) ?_
        refine RunsI.go 1 [.c 20] (by kernel_rfl) ?_
        refine RunsI.go 1 [.c 21, .c 22] (by kernel_rfl) ?_
        refine RunsI.region (by kernel_rfl) ?_
        refine RegI.pure 3 [4, 5] [(4, .int .i64 (IntKind.wrap .i64 p1)), (5, .bool true)] (by kernel_rfl) ?_
        refine RegI.done (by kernel_rfl) ?_
        refine RunsI.ret (.tuple #[.int .i64 (IntKind.wrap .i64 p1), .bool true]) (by kernel_rfl) (by kernel_rfl) ?_
        obtain rfl := Option.some.inj h
        exact ⟨rfl, h9.below⟩
    clear hJ12
    rcases of_cond h with ⟨hc7, h⟩ | ⟨hc7, h⟩
    · skip
      refine RegI.fix 16 true hc7 (by kernel_rfl) (by kernel_rfl) ?_
      refine RegI.pure 3 [2, 6, 19] [(2, .pointer (some ⟨b2, 0, none⟩)), (6, .int .i64 (IntKind.wrap .i64 p1)), (19, .bool (decide ((IntKind.wrap .i64 p1) < 49152)))] (by kernel_rfl) ?_
      refine RegI.only [2, 6, 19] [(2, .pointer (some ⟨b2, 0, none⟩)), (6, .int .i64 (IntKind.wrap .i64 p1)), (19, .bool (decide ((IntKind.wrap .i64 p1) < 49152)))] (by kernel_rfl) (by kernel_rfl) ?_
      exact hj13 (decide ((IntKind.wrap .i64 p1) < 49152)) w1 h (h3.pick [2, 0, 1] (by decide))
    · skip
      refine RegI.fix 16 false hc7 (by kernel_rfl) (by kernel_rfl) ?_
      refine RegI.pure 3 [2, 6, 19] [(2, .pointer (some ⟨b2, 0, none⟩)), (6, .int .i64 (IntKind.wrap .i64 p1)), (19, .bool false)] (by kernel_rfl) ?_
      refine RegI.only [2, 6, 19] [(2, .pointer (some ⟨b2, 0, none⟩)), (6, .int .i64 (IntKind.wrap .i64 p1)), (19, .bool false)] (by kernel_rfl) (by kernel_rfl) ?_
      exact hj13 false w1 h (h3.pick [2, 0, 1] (by decide))
end

/-! ### charabanc/charabancref19.put (function 120) -/
section
def charabancref19_put_120.post (M0 : Nat → Prop) (w0 : World) (r : (List Int) × Int × Int × (List (Int × Int))) : Ending → World → Prop := fun e w => ∃ (A1 : Option Addr) (c1 : Nat) (A4 : Option Addr) (c4 : Nat), e = .returned (.agg #[.slice A1 r.1.length c1, .int .i64 r.2.1, .int .i64 r.2.2.1, .slice A4 r.2.2.2.length c4]) ∧ Holds M0 w0 w [sl (Rp.int .u8) (.slice A1 r.1.length c1) r.1, own (Rp.pair (Rp.int .i64) (Rp.int .u8)) 81 (.slice A4 r.2.2.2.length c4) r.2.2.2]
def charabancref19_put_120.l0 (K : Nat) (p0_0 : List Int) (p0_1 : Int) (p0_2 : Int) (p0_3 : List (Int × Int)) (p1 : Int) (p2 : Int) : Nat → (List (Int × Int)) → Bool → Int → Option ((List (Int × Int)) × Bool)
  | 0, _, _, _ => none
  | k + 1, t16, t17, t18 => cond (decide (t18 < (p0_3.length : Int))) (cond (inR t18 p0_3.length) (Let (fun (t35 : Bool) => Let (fun (yj59 : (List (Int × Int)) × Bool) => cond (((rdD p0_3 t18).1) != p1) (cond (mayBe (yj59.1.length + ([((rdD p0_3 t18).1, (rdD p0_3 t18).2)] : List (Int × Int)).length) 16) (charabancref19_put_120.l0 K p0_0 p0_1 p0_2 p0_3 p1 p2 k (yj59.1 ++ ([((rdD p0_3 t18).1, (rdD p0_3 t18).2)] : List (Int × Int))) yj59.2 (IntKind.wrap .i64 (t18 + 1))) none) (charabancref19_put_120.l0 K p0_0 p0_1 p0_2 p0_3 p1 p2 k yj59.1 yj59.2 (IntKind.wrap .i64 (t18 + 1)))) (fun j59 => cond t35 (cond (mayBe (t16.length + ([(p1, p2)] : List (Int × Int)).length) 16) (j59 ((t16 ++ ([(p1, p2)] : List (Int × Int))), true)) none) (j59 (t16, t17)))) (fun j38 => cond (decide (((rdD p0_3 t18).1) > p1)) (j38 (!t17)) (j38 false))) none) (some (t16, t17))
set_option maxRecDepth 100000 in
theorem charabancref19_put_120.l0_ok (K : Nat) (M0 : Nat → Prop) (w0 : World) (pA0_0 : Option Addr) (pc0_0 : Nat) (pA0_3 : Option Addr) (pc0_3 : Nat) (p0_0 : List Int) (p0_1 : Int) (p0_2 : Int) (p0_3 : List (Int × Int)) (p1 : Int) (p2 : Int) (b12 : Nat) (b13 : Nat) (R : Ending → World → Prop) (x : (List (Int × Int)) × Bool) (hk0 : ∀ (t76 : List (Int × Int)) (t77 : Bool) (A74 : Option Addr) (c75 : Nat) (w1 : World), x = (t76, t77) → Holds M0 w0 w1 [box b12 31 [.slice pA0_0 p0_0.length pc0_0, .int .i64 p0_1, .int .i64 p0_2, .slice pA0_3 p0_3.length pc0_3], sl (Rp.int .u8) (.slice pA0_0 p0_0.length pc0_0) p0_0, sl (Rp.pair (Rp.int .i64) (Rp.int .u8)) (.slice pA0_3 p0_3.length pc0_3) p0_3, box b13 31 [.slice none 0 0, .int .i64 0, .int .i64 0, .slice none 0 0], own (Rp.pair (Rp.int .i64) (Rp.int .u8)) 81 (.slice A74 t76.length c75) t76] → RunsI F120 [.c 35] [(1, .int .i64 p1), (2, .int .u8 p2), (3, .pointer (some ⟨b12, 0, none⟩)), (6, .pointer (some ⟨b13, 0, none⟩)), (7, .slice A74 t76.length c75), (8, .bool t77)] w1 R) :
    ∀ (k : Nat) (t16 : List (Int × Int)) (t17 : Bool) (t18 : Int) (A14 : Option Addr) (c15 : Nat) (w : World), charabancref19_put_120.l0 K p0_0 p0_1 p0_2 p0_3 p1 p2 k t16 t17 t18 = some x → Holds M0 w0 w [box b12 31 [.slice pA0_0 p0_0.length pc0_0, .int .i64 p0_1, .int .i64 p0_2, .slice pA0_3 p0_3.length pc0_3], sl (Rp.int .u8) (.slice pA0_0 p0_0.length pc0_0) p0_0, sl (Rp.pair (Rp.int .i64) (Rp.int .u8)) (.slice pA0_3 p0_3.length pc0_3) p0_3, box b13 31 [.slice none 0 0, .int .i64 0, .int .i64 0, .slice none 0 0], own (Rp.pair (Rp.int .i64) (Rp.int .u8)) 81 (.slice A14 t16.length c15) t16] → RunsI F120 [.c 11, .lp 11, .blk 0, .c 35] [(1, .int .i64 p1), (2, .int .u8 p2), (3, .pointer (some ⟨b12, 0, none⟩)), (6, .pointer (some ⟨b13, 0, none⟩)), (7, .slice A14 t16.length c15), (8, .bool t17), (9, .int .i64 t18)] w R := by
  intro k
  induction k with
  | zero => intro t16 t17 t18 A14 c15 w h hH; exact absurd h (by simp [charabancref19_put_120.l0])
  | succ k ih =>
    intro t16 t17 t18 A14 c15 w h hH
    rw [charabancref19_put_120.l0.eq_2] at h
    refine RunsI.go 1 [.c 12, .c 17, .lp 11, .blk 0, .c 35] (by kernel_rfl) ?_
    refine RunsI.go 1 [.c 13, .c 14, .c 17, .lp 11, .blk 0, .c 35] (by kernel_rfl) ?_
    refine RunsI.region (by kernel_rfl) ?_
    refine RegI.pure 2 [1, 2, 3, 6, 7, 8, 9, 13, 14] [(1, .int .i64 p1), (2, .int .u8 p2), (3, .pointer (some ⟨b12, 0, none⟩)), (6, .pointer (some ⟨b13, 0, none⟩)), (7, .slice A14 t16.length c15), (8, .bool t17), (9, .int .i64 t18), (13, .int .i64 t18), (14, .pointer (some ⟨b12, 3, none⟩))] (by kernel_rfl) ?_
    refine RegI.op (by kernel_rfl) (OpE.loadBox 15 0 29 b12 3 (.slice pA0_3 p0_3.length pc0_3) hH (by kernel_rfl) (by kernel_rfl) rfl (by kernel_rfl) ?_)
    refine RegI.pure 2 [1, 2, 3, 6, 7, 8, 9, 17] [(1, .int .i64 p1), (2, .int .u8 p2), (3, .pointer (some ⟨b12, 0, none⟩)), (6, .pointer (some ⟨b13, 0, none⟩)), (7, .slice A14 t16.length c15), (8, .bool t17), (9, .int .i64 t18), (17, .bool (decide (t18 < (p0_3.length : Int))))] (by kernel_rfl) ?_
    refine RegI.done (by kernel_rfl) ?_
    rcases of_cond h with ⟨hc19, h⟩ | ⟨hc19, h⟩
    · skip
      refine RunsI.fix 17 true hc19 (by kernel_rfl) (by kernel_rfl) ?_
      refine RunsI.cond true 15 (by kernel_rfl) ?_
      refine RunsI.go 1 [.c 17, .lp 11, .blk 0, .c 35] (by kernel_rfl) ?_
      refine RunsI.go 3 [.c 20, .c 21, .blk 1, .c 34, .lp 11, .blk 0, .c 35] (by kernel_rfl) ?_
      refine RunsI.region (by kernel_rfl) ?_
      refine RegI.pure 1 [1, 2, 3, 6, 7, 8, 9, 20] [(1, .int .i64 p1), (2, .int .u8 p2), (3, .pointer (some ⟨b12, 0, none⟩)), (6, .pointer (some ⟨b13, 0, none⟩)), (7, .slice A14 t16.length c15), (8, .bool t17), (9, .int .i64 t18), (20, .pointer (some ⟨b12, 3, none⟩))] (by kernel_rfl) ?_
      refine RegI.op (by kernel_rfl) (OpE.loadBox 21 0 29 b12 3 (.slice pA0_3 p0_3.length pc0_3) hH (by kernel_rfl) (by kernel_rfl) rfl (by kernel_rfl) ?_)
      refine RegI.pure 1 [1, 2, 3, 6, 7, 8, 9, 21, 22] [(1, .int .i64 p1), (2, .int .u8 p2), (3, .pointer (some ⟨b12, 0, none⟩)), (6, .pointer (some ⟨b13, 0, none⟩)), (7, .slice A14 t16.length c15), (8, .bool t17), (9, .int .i64 t18), (21, .slice pA0_3 p0_3.length pc0_3), (22, .int .i64 t18)] (by kernel_rfl) ?_
      obtain ⟨hc20, h⟩ := of_cond0 h
      refine RegI.op (by kernel_rfl) (OpE.idxSl 23 2 29 t18 hH (by kernel_rfl) rfl (by kernel_rfl) (by kernel_rfl) hc20 ?_)
      intro b21 o22 cs23 hk24 h25
      obtain ⟨_, _, rfl, rfl, rfl⟩ := hk24
      refine RegI.op (by kernel_rfl) (OpE.loadCel 24 5 81 b21 o22 0 (.agg #[.int .i64 ((rdD p0_3 t18).1), .int .u8 ((rdD p0_3 t18).2)]) h25 (by kernel_rfl) (by kernel_rfl) rfl (by kernel_rfl) ?_)
      refine RegI.op (by kernel_rfl) (OpE.box 10 81 [.int .i64 0, .int .u8 0] h25 (by kernel_rfl) (by kernel_rfl) ?_)
      intro w26 b27 h28 hb29 hn30
      refine RegI.op (by kernel_rfl) (OpE.storeBox 6 81 b27 0 (.agg #[.int .i64 ((rdD p0_3 t18).1), .int .u8 ((rdD p0_3 t18).2)]) [.int .i64 ((rdD p0_3 t18).1), .int .u8 ((rdD p0_3 t18).2)] h28 (by kernel_rfl) (by kernel_rfl) rfl (by kernel_rfl) (by kernel_rfl) (by kernel_rfl) ?_)
      intro w31 h32 hk33
      refine RegI.done (by kernel_rfl) ?_
      refine RunsI.go 2 [.c 23, .c 24, .c 29, .blk 1, .c 34, .lp 11, .blk 0, .c 35] (by kernel_rfl) ?_
      refine RunsI.region (by kernel_rfl) ?_
      refine RegI.pure 1 [1, 2, 3, 6, 7, 8, 9, 10, 25] [(1, .int .i64 p1), (2, .int .u8 p2), (3, .pointer (some ⟨b12, 0, none⟩)), (6, .pointer (some ⟨b13, 0, none⟩)), (7, .slice A14 t16.length c15), (8, .bool t17), (9, .int .i64 t18), (10, .pointer (some ⟨b27, 0, none⟩)), (25, .pointer (some ⟨b27, 0, none⟩))] (by kernel_rfl) ?_
      refine RegI.op (by kernel_rfl) (OpE.loadBox 26 6 3 b27 0 (.int .i64 ((rdD p0_3 t18).1)) h32 (by kernel_rfl) (by kernel_rfl) rfl (by kernel_rfl) ?_)
      refine RegI.pure 3 [1, 2, 3, 6, 7, 8, 9, 10, 29] [(1, .int .i64 p1), (2, .int .u8 p2), (3, .pointer (some ⟨b12, 0, none⟩)), (6, .pointer (some ⟨b13, 0, none⟩)), (7, .slice A14 t16.length c15), (8, .bool t17), (9, .int .i64 t18), (10, .pointer (some ⟨b27, 0, none⟩)), (29, .bool (decide (((rdD p0_3 t18).1) > p1)))] (by kernel_rfl) ?_
      obtain ⟨j38, hJ39, h⟩ := of_let h
      have hj40 : ∀ (t35 : Bool) (w37 : World), j38 t35 = some x → Holds M0 w0 w37 [box b12 31 [.slice pA0_0 p0_0.length pc0_0, .int .i64 p0_1, .int .i64 p0_2, .slice pA0_3 p0_3.length pc0_3], sl (Rp.int .u8) (.slice pA0_0 p0_0.length pc0_0) p0_0, sl (Rp.pair (Rp.int .i64) (Rp.int .u8)) (.slice pA0_3 p0_3.length pc0_3) p0_3, box b13 31 [.slice none 0 0, .int .i64 0, .int .i64 0, .slice none 0 0], own (Rp.pair (Rp.int .i64) (Rp.int .u8)) 81 (.slice A14 t16.length c15) t16, box b27 81 [.int .i64 ((rdD p0_3 t18).1), .int .u8 ((rdD p0_3 t18).2)]] → RegI F120 23 [.c 24, .c 29, .blk 1, .c 34, .lp 11, .blk 0, .c 35] 8 [(1, .int .i64 p1), (2, .int .u8 p2), (3, .pointer (some ⟨b12, 0, none⟩)), (6, .pointer (some ⟨b13, 0, none⟩)), (7, .slice A14 t16.length c15), (8, .bool t17), (9, .int .i64 t18), (10, .pointer (some ⟨b27, 0, none⟩)), (32, .bool t35)] w37 R := by
        intro t35 w37 h h36
        rw [hJ39] at h
        clear hJ39
        dsimp only at h
        refine RegI.done (by kernel_rfl) ?_
        obtain ⟨j59, hJ60, h⟩ := of_let h
        have hj61 : ∀ (t55 : List (Int × Int)) (t56 : Bool) (A53 : Option Addr) (c54 : Nat) (w58 : World), j59 (t55, t56) = some x → Holds M0 w0 w58 [box b12 31 [.slice pA0_0 p0_0.length pc0_0, .int .i64 p0_1, .int .i64 p0_2, .slice pA0_3 p0_3.length pc0_3], sl (Rp.int .u8) (.slice pA0_0 p0_0.length pc0_0) p0_0, sl (Rp.pair (Rp.int .i64) (Rp.int .u8)) (.slice pA0_3 p0_3.length pc0_3) p0_3, box b13 31 [.slice none 0 0, .int .i64 0, .int .i64 0, .slice none 0 0], own (Rp.pair (Rp.int .i64) (Rp.int .u8)) 81 (.slice A53 t55.length c54) t55, box b27 81 [.int .i64 ((rdD p0_3 t18).1), .int .u8 ((rdD p0_3 t18).2)]] → RunsI F120 [.c 29, .blk 1, .c 34, .lp 11, .blk 0, .c 35] [(1, .int .i64 p1), (2, .int .u8 p2), (3, .pointer (some ⟨b12, 0, none⟩)), (6, .pointer (some ⟨b13, 0, none⟩)), (7, .slice A53 t55.length c54), (8, .bool t56), (9, .int .i64 t18), (10, .pointer (some ⟨b27, 0, none⟩))] w58 R := by
          intro t55 t56 A53 c54 w58 h h57
          rw [hJ60] at h
          clear hJ60
          dsimp only at h
          refine RunsI.go 1 [.c 30, .c 31, .blk 1, .c 34, .lp 11, .blk 0, .c 35] (by kernel_rfl) ?_
          refine RunsI.region (by kernel_rfl) ?_
          refine RegI.pure 1 [1, 2, 3, 6, 7, 8, 9, 10, 39] [(1, .int .i64 p1), (2, .int .u8 p2), (3, .pointer (some ⟨b12, 0, none⟩)), (6, .pointer (some ⟨b13, 0, none⟩)), (7, .slice A53 t55.length c54), (8, .bool t56), (9, .int .i64 t18), (10, .pointer (some ⟨b27, 0, none⟩)), (39, .pointer (some ⟨b27, 0, none⟩))] (by kernel_rfl) ?_
          refine RegI.op (by kernel_rfl) (OpE.loadBox 40 5 3 b27 0 (.int .i64 ((rdD p0_3 t18).1)) h57 (by kernel_rfl) (by kernel_rfl) rfl (by kernel_rfl) ?_)
          refine RegI.pure 2 [1, 2, 3, 6, 7, 8, 9, 10, 42] [(1, .int .i64 p1), (2, .int .u8 p2), (3, .pointer (some ⟨b12, 0, none⟩)), (6, .pointer (some ⟨b13, 0, none⟩)), (7, .slice A53 t55.length c54), (8, .bool t56), (9, .int .i64 t18), (10, .pointer (some ⟨b27, 0, none⟩)), (42, .bool (((rdD p0_3 t18).1) != p1))] (by kernel_rfl) ?_
          refine RegI.done (by kernel_rfl) ?_
          rcases of_cond h with ⟨hc62, h⟩ | ⟨hc62, h⟩
          · skip
            refine RunsI.fix 42 true hc62 (by kernel_rfl) (by kernel_rfl) ?_
            refine RunsI.cond true 32 (by kernel_rfl) ?_
            refine RunsI.region (by kernel_rfl) ?_
            refine RegI.pure 1 [1, 2, 3, 6, 8, 9, 10, 43] [(1, .int .i64 p1), (2, .int .u8 p2), (3, .pointer (some ⟨b12, 0, none⟩)), (6, .pointer (some ⟨b13, 0, none⟩)), (8, .bool t56), (9, .int .i64 t18), (10, .pointer (some ⟨b27, 0, none⟩)), (43, .slice A53 t55.length c54)] (by kernel_rfl) ?_
            refine RegI.op (by kernel_rfl) (OpE.loadBox 44 5 81 b27 0 (.agg #[.int .i64 ((rdD p0_3 t18).1), .int .u8 ((rdD p0_3 t18).2)]) h57 (by kernel_rfl) (by kernel_rfl) rfl (by kernel_rfl) ?_)
            refine RegI.op (by kernel_rfl) (OpE.lit 45 81 [.int .i64 ((rdD p0_3 t18).1), .int .u8 ((rdD p0_3 t18).2)] 1 h57 (by kernel_rfl) (by kernel_rfl) ?_)
            intro w63 b64 h65 hb66 hn67
            obtain ⟨hc68, h⟩ := of_cond0 h
            refine RegI.op (by kernel_rfl) (OpE.appendBox 46 4 6 29 81 16 ([((rdD p0_3 t18).1, (rdD p0_3 t18).2)] : List (Int × Int)) 0 h65 (by kernel_rfl) (by kernel_rfl) (by kernel_rfl) rfl rfl rfl (⟨[_, _], _, rfl, ⟨[_], [_], rfl, rfl, rfl⟩, rfl⟩) hc68 ?_)
            intro w69 A70 c71 h72 hk73
            refine RegI.pure 1 [1, 2, 3, 6, 7, 8, 9] [(1, .int .i64 p1), (2, .int .u8 p2), (3, .pointer (some ⟨b12, 0, none⟩)), (6, .pointer (some ⟨b13, 0, none⟩)), (7, .slice A70 ((t55 ++ ([((rdD p0_3 t18).1, (rdD p0_3 t18).2)] : List (Int × Int))).length) c71), (8, .bool t56), (9, .int .i64 t18)] (by kernel_rfl) ?_
            refine RegI.done (by kernel_rfl) ?_
            refine RunsI.go 1 [.c 34, .lp 11, .blk 0, .c 35] (by kernel_rfl) ?_
            refine RunsI.region (by kernel_rfl) ?_
            refine RegI.pure 3 [1, 2, 3, 6, 7, 8, 9] [(1, .int .i64 p1), (2, .int .u8 p2), (3, .pointer (some ⟨b12, 0, none⟩)), (6, .pointer (some ⟨b13, 0, none⟩)), (7, .slice A70 ((t55 ++ ([((rdD p0_3 t18).1, (rdD p0_3 t18).2)] : List (Int × Int))).length) c71), (8, .bool t56), (9, .int .i64 (IntKind.wrap .i64 (t18 + 1)))] (by kernel_rfl) ?_
            refine RegI.done (by kernel_rfl) ?_
            refine RunsI.go 1 [.c 11, .lp 11, .blk 0, .c 35] (by kernel_rfl) ?_
            refine RunsI.only [1, 2, 3, 6, 7, 8, 9] [(1, .int .i64 p1), (2, .int .u8 p2), (3, .pointer (some ⟨b12, 0, none⟩)), (6, .pointer (some ⟨b13, 0, none⟩)), (7, .slice A70 ((t55 ++ ([((rdD p0_3 t18).1, (rdD p0_3 t18).2)] : List (Int × Int))).length) c71), (8, .bool t56), (9, .int .i64 (IntKind.wrap .i64 (t18 + 1)))] (by kernel_rfl) (by kernel_rfl) ?_
            exact ih (t55 ++ ([((rdD p0_3 t18).1, (rdD p0_3 t18).2)] : List (Int × Int))) t56 (IntKind.wrap .i64 (t18 + 1)) A70 c71 w69 h (h72.pick [0, 1, 2, 3, 4] (by decide))
          · skip
            refine RunsI.fix 42 false hc62 (by kernel_rfl) (by kernel_rfl) ?_
            refine RunsI.cond false 33 (by kernel_rfl) ?_
            refine RunsI.go 1 [.blk 1, .c 34, .lp 11, .blk 0, .c 35] (by kernel_rfl) ?_
            refine RunsI.go 1 [.c 34, .lp 11, .blk 0, .c 35] (by kernel_rfl) ?_
            refine RunsI.region (by kernel_rfl) ?_
            refine RegI.pure 3 [1, 2, 3, 6, 7, 8, 9] [(1, .int .i64 p1), (2, .int .u8 p2), (3, .pointer (some ⟨b12, 0, none⟩)), (6, .pointer (some ⟨b13, 0, none⟩)), (7, .slice A53 t55.length c54), (8, .bool t56), (9, .int .i64 (IntKind.wrap .i64 (t18 + 1)))] (by kernel_rfl) ?_
            refine RegI.done (by kernel_rfl) ?_
            refine RunsI.go 1 [.c 11, .lp 11, .blk 0, .c 35] (by kernel_rfl) ?_
            refine RunsI.only [1, 2, 3, 6, 7, 8, 9] [(1, .int .i64 p1), (2, .int .u8 p2), (3, .pointer (some ⟨b12, 0, none⟩)), (6, .pointer (some ⟨b13, 0, none⟩)), (7, .slice A53 t55.length c54), (8, .bool t56), (9, .int .i64 (IntKind.wrap .i64 (t18 + 1)))] (by kernel_rfl) (by kernel_rfl) ?_
            exact ih t55 t56 (IntKind.wrap .i64 (t18 + 1)) A53 c54 w58 h (h57.pick [0, 1, 2, 3, 4] (by decide))
        clear hJ60
        rcases of_cond h with ⟨hc41, h⟩ | ⟨hc41, h⟩
        · skip
          refine RunsI.fix 32 true hc41 (by kernel_rfl) (by kernel_rfl) ?_
          refine RunsI.cond true 25 (by kernel_rfl) ?_
          refine RunsI.go 1 [.c 26, .c 27, .c 29, .blk 1, .c 34, .lp 11, .blk 0, .c 35] (by kernel_rfl) ?_
          refine RunsI.region (by kernel_rfl) ?_
          refine RegI.pure 4 [1, 2, 3, 6, 9, 10, 33, 36] [(1, .int .i64 p1), (2, .int .u8 p2), (3, .pointer (some ⟨b12, 0, none⟩)), (6, .pointer (some ⟨b13, 0, none⟩)), (9, .int .i64 t18), (10, .pointer (some ⟨b27, 0, none⟩)), (33, .slice A14 t16.length c15), (36, .agg #[.int .i64 p1, .int .u8 p2])] (by kernel_rfl) ?_
          refine RegI.op (by kernel_rfl) (OpE.lit 37 81 [.int .i64 p1, .int .u8 p2] 1 h36 (by kernel_rfl) (by kernel_rfl) ?_)
          intro w42 b43 h44 hb45 hn46
          obtain ⟨hc47, h⟩ := of_cond0 h
          refine RegI.op (by kernel_rfl) (OpE.appendBox 38 4 6 29 81 16 ([(p1, p2)] : List (Int × Int)) 0 h44 (by kernel_rfl) (by kernel_rfl) (by kernel_rfl) rfl rfl rfl (⟨[_, _], _, rfl, ⟨[_], [_], rfl, rfl, rfl⟩, rfl⟩) hc47 ?_)
          intro w48 A49 c50 h51 hk52
          refine RegI.pure 1 [1, 2, 3, 6, 7, 9, 10] [(1, .int .i64 p1), (2, .int .u8 p2), (3, .pointer (some ⟨b12, 0, none⟩)), (6, .pointer (some ⟨b13, 0, none⟩)), (7, .slice A49 ((t16 ++ ([(p1, p2)] : List (Int × Int))).length) c50), (9, .int .i64 t18), (10, .pointer (some ⟨b27, 0, none⟩))] (by kernel_rfl) ?_
          refine RegI.done (by kernel_rfl) ?_
          refine RunsI.region (by kernel_rfl) ?_
          refine RegI.pure 1 [1, 2, 3, 6, 7, 8, 9, 10] [(1, .int .i64 p1), (2, .int .u8 p2), (3, .pointer (some ⟨b12, 0, none⟩)), (6, .pointer (some ⟨b13, 0, none⟩)), (7, .slice A49 ((t16 ++ ([(p1, p2)] : List (Int × Int))).length) c50), (8, .bool true), (9, .int .i64 t18), (10, .pointer (some ⟨b27, 0, none⟩))] (by kernel_rfl) ?_
          refine RegI.done (by kernel_rfl) ?_
          refine RunsI.only [1, 2, 3, 6, 7, 8, 9, 10] [(1, .int .i64 p1), (2, .int .u8 p2), (3, .pointer (some ⟨b12, 0, none⟩)), (6, .pointer (some ⟨b13, 0, none⟩)), (7, .slice A49 ((t16 ++ ([(p1, p2)] : List (Int × Int))).length) c50), (8, .bool true), (9, .int .i64 t18), (10, .pointer (some ⟨b27, 0, none⟩))] (by kernel_rfl) (by kernel_rfl) ?_
          exact hj61 (t16 ++ ([(p1, p2)] : List (Int × Int))) true A49 c50 w48 h (h51.pick [0, 1, 2, 3, 4, 5] (by decide))
        · skip
          refine RunsI.fix 32 false hc41 (by kernel_rfl) (by kernel_rfl) ?_
          refine RunsI.cond false 28 (by kernel_rfl) ?_
          refine RunsI.go 1 [.c 29, .blk 1, .c 34, .lp 11, .blk 0, .c 35] (by kernel_rfl) ?_
          refine RunsI.only [1, 2, 3, 6, 7, 8, 9, 10] [(1, .int .i64 p1), (2, .int .u8 p2), (3, .pointer (some ⟨b12, 0, none⟩)), (6, .pointer (some ⟨b13, 0, none⟩)), (7, .slice A14 t16.length c15), (8, .bool t17), (9, .int .i64 t18), (10, .pointer (some ⟨b27, 0, none⟩))] (by kernel_rfl) (by kernel_rfl) ?_
          exact hj61 t16 t17 A14 c15 w37 h (h36.pick [0, 1, 2, 3, 4, 5] (by decide))
      clear hJ39
      rcases of_cond h with ⟨hc34, h⟩ | ⟨hc34, h⟩
      · skip
        refine RegI.fix 29 true hc34 (by kernel_rfl) (by kernel_rfl) ?_
        refine RegI.pure 3 [1, 2, 3, 6, 7, 8, 9, 10, 32] [(1, .int .i64 p1), (2, .int .u8 p2), (3, .pointer (some ⟨b12, 0, none⟩)), (6, .pointer (some ⟨b13, 0, none⟩)), (7, .slice A14 t16.length c15), (8, .bool t17), (9, .int .i64 t18), (10, .pointer (some ⟨b27, 0, none⟩)), (32, .bool (!t17))] (by kernel_rfl) ?_
        refine RegI.only [1, 2, 3, 6, 7, 8, 9, 10, 32] [(1, .int .i64 p1), (2, .int .u8 p2), (3, .pointer (some ⟨b12, 0, none⟩)), (6, .pointer (some ⟨b13, 0, none⟩)), (7, .slice A14 t16.length c15), (8, .bool t17), (9, .int .i64 t18), (10, .pointer (some ⟨b27, 0, none⟩)), (32, .bool (!t17))] (by kernel_rfl) (by kernel_rfl) ?_
        exact hj40 (!t17) w31 h (h32.pick [0, 1, 2, 3, 4, 6] (by decide))
      · skip
        refine RegI.fix 29 false hc34 (by kernel_rfl) (by kernel_rfl) ?_
        refine RegI.pure 3 [1, 2, 3, 6, 7, 8, 9, 10, 32] [(1, .int .i64 p1), (2, .int .u8 p2), (3, .pointer (some ⟨b12, 0, none⟩)), (6, .pointer (some ⟨b13, 0, none⟩)), (7, .slice A14 t16.length c15), (8, .bool t17), (9, .int .i64 t18), (10, .pointer (some ⟨b27, 0, none⟩)), (32, .bool false)] (by kernel_rfl) ?_
        refine RegI.only [1, 2, 3, 6, 7, 8, 9, 10, 32] [(1, .int .i64 p1), (2, .int .u8 p2), (3, .pointer (some ⟨b12, 0, none⟩)), (6, .pointer (some ⟨b13, 0, none⟩)), (7, .slice A14 t16.length c15), (8, .bool t17), (9, .int .i64 t18), (10, .pointer (some ⟨b27, 0, none⟩)), (32, .bool false)] (by kernel_rfl) (by kernel_rfl) ?_
        exact hj40 false w31 h (h32.pick [0, 1, 2, 3, 4, 6] (by decide))
    · skip
      refine RunsI.fix 17 false hc19 (by kernel_rfl) (by kernel_rfl) ?_
      refine RunsI.cond false 16 (by kernel_rfl) ?_
      refine RunsI.go 1 [.c 35] (by kernel_rfl) ?_
      refine RunsI.only [1, 2, 3, 6, 7, 8] [(1, .int .i64 p1), (2, .int .u8 p2), (3, .pointer (some ⟨b12, 0, none⟩)), (6, .pointer (some ⟨b13, 0, none⟩)), (7, .slice A14 t16.length c15), (8, .bool t17)] (by kernel_rfl) (by kernel_rfl) ?_
      exact hk0 t16 t17 A14 c15 w (Option.some.inj h).symm (hH.pick [0, 1, 2, 3, 4] (by decide))
def charabancref19_put_120.f (K : Nat) (p0_0 : List Int) (p0_1 : Int) (p0_2 : Int) (p0_3 : List (Int × Int)) (p1 : Int) (p2 : Int) : Option ((List Int) × Int × Int × (List (Int × Int))) := (charabancref19_put_120.l0 K p0_0 p0_1 p0_2 p0_3 p1 p2 K ([] : List (Int × Int)) (p2 == 0) 0).bind (fun yx78 => cond (!yx78.2) (cond (mayBe (yx78.1.length + ([(p1, p2)] : List (Int × Int)).length) 16) (some (p0_0, p0_1, p0_2, (yx78.1 ++ ([(p1, p2)] : List (Int × Int))))) none) (some (p0_0, p0_1, p0_2, yx78.1)))
set_option maxRecDepth 100000 in
theorem charabancref19_put_120_ok (K : Nat) (M0 : Nat → Prop) (w0 : World) (pA0_0 : Option Addr) (pc0_0 : Nat) (pA0_3 : Option Addr) (pc0_3 : Nat) (p0_0 : List Int) (p0_1 : Int) (p0_2 : Int) (p0_3 : List (Int × Int)) (p1 : Int) (p2 : Int) (ho : ∀ b, M0 b → b < w0.heap.size) (hs0_0 : Sl (Rp.int .u8) w0 M0 (.slice pA0_0 p0_0.length pc0_0) p0_0) (hs0_3 : Sl (Rp.pair (Rp.int .i64) (Rp.int .u8)) w0 M0 (.slice pA0_3 p0_3.length pc0_3) p0_3) {r : (List Int) × Int × Int × (List (Int × Int))} (h : charabancref19_put_120.f K p0_0 p0_1 p0_2 p0_3 p1 p2 = some r) :
    Calls Tryd.prog 120 #[.agg #[.slice pA0_0 p0_0.length pc0_0, .int .i64 p0_1, .int .i64 p0_2, .slice pA0_3 p0_3.length pc0_3], .int .i64 p1, .int .u8 p2] w0 (charabancref19_put_120.post M0 w0 r) := by
  unfold charabancref19_put_120.f at h
  have h0 : Holds M0 w0 w0 [] := Holds.start ho
  have h00_0 := h0.addSl (Rp.int .u8) (.slice pA0_0 p0_0.length pc0_0) p0_0 (hs0_0.mono (fun _ _ hm => hm.elim id (fun hm => absurd hm (by simp [mines, sl]))))
  have h00_3 := h00_0.addSl (Rp.pair (Rp.int .i64) (Rp.int .u8)) (.slice pA0_3 p0_3.length pc0_3) p0_3 (hs0_3.mono (fun _ _ hm => hm.elim id (fun hm => absurd hm (by simp [mines, sl]))))
  have h0 : Holds M0 w0 w0 [sl (Rp.int .u8) (.slice pA0_0 p0_0.length pc0_0) p0_0, sl (Rp.pair (Rp.int .i64) (Rp.int .u8)) (.slice pA0_3 p0_3.length pc0_3) p0_3] := h00_3
  refine calls_of F120 rfl [.agg #[.slice pA0_0 p0_0.length pc0_0, .int .i64 p0_1, .int .i64 p0_2, .slice pA0_3 p0_3.length pc0_3], .int .i64 p1, .int .u8 p2] (by kernel_rfl) ?_
  refine RunsI.go 1 [.c 1, .c 2] (by kernel_rfl) ?_
  refine RunsI.region (by kernel_rfl) ?_
  refine RegI.op (by kernel_rfl) (OpE.box 3 31 [.slice pA0_0 p0_0.length pc0_0, .int .i64 p0_1, .int .i64 p0_2, .slice pA0_3 p0_3.length pc0_3] h0 (by kernel_rfl) (by kernel_rfl) ?_)
  intro w1 b2 h3 hb4 hn5
  refine RegI.op (by kernel_rfl) (OpE.box 6 31 [.slice none 0 0, .int .i64 0, .int .i64 0, .slice none 0 0] h3 (by kernel_rfl) (by kernel_rfl) ?_)
  intro w6 b7 h8 hb9 hn10
  refine RegI.done (by kernel_rfl) ?_
  refine RunsI.go 1 [.c 3, .c 4] (by kernel_rfl) ?_
  refine RunsI.region (by kernel_rfl) ?_
  refine RegI.pure 1 [1, 2, 3, 6, 7] [(1, .int .i64 p1), (2, .int .u8 p2), (3, .pointer (some ⟨b2, 0, none⟩)), (6, .pointer (some ⟨b7, 0, none⟩)), (7, .slice none 0 0)] (by kernel_rfl) ?_
  refine RegI.done (by kernel_rfl) ?_
  refine RunsI.go 1 [.c 5, .c 6] (by kernel_rfl) ?_
  refine RunsI.region (by kernel_rfl) ?_
  refine RegI.pure 3 [1, 2, 3, 6, 7, 8] [(1, .int .i64 p1), (2, .int .u8 p2), (3, .pointer (some ⟨b2, 0, none⟩)), (6, .pointer (some ⟨b7, 0, none⟩)), (7, .slice none 0 0), (8, .bool (p2 == 0))] (by kernel_rfl) ?_
  refine RegI.done (by kernel_rfl) ?_
  refine RunsI.go 2 [.c 8, .c 9, .c 35] (by kernel_rfl) ?_
  refine RunsI.region (by kernel_rfl) ?_
  refine RegI.pure 1 [1, 2, 3, 6, 7, 8, 9] [(1, .int .i64 p1), (2, .int .u8 p2), (3, .pointer (some ⟨b2, 0, none⟩)), (6, .pointer (some ⟨b7, 0, none⟩)), (7, .slice none 0 0), (8, .bool (p2 == 0)), (9, .int .i64 0)] (by kernel_rfl) ?_
  refine RegI.done (by kernel_rfl) ?_
  refine RunsI.go 2 [.c 11, .lp 11, .blk 0, .c 35] (by kernel_rfl) ?_
  obtain ⟨x78, hx79, h⟩ := of_bind h
  have h11 := h8.addOwnNil (Rp.pair (Rp.int .i64) (Rp.int .u8)) 81
  refine RunsI.only [1, 2, 3, 6, 7, 8, 9] [(1, .int .i64 p1), (2, .int .u8 p2), (3, .pointer (some ⟨b2, 0, none⟩)), (6, .pointer (some ⟨b7, 0, none⟩)), (7, .slice none (([] : List (Int × Int)).length) 0), (8, .bool (p2 == 0)), (9, .int .i64 0)] (by kernel_rfl) (by kernel_rfl) ?_
  refine charabancref19_put_120.l0_ok K M0 w0 pA0_0 pc0_0 pA0_3 pc0_3 p0_0 p0_1 p0_2 p0_3 p1 p2 b2 b7 _ x78 ?_ K ([] : List (Int × Int)) (p2 == 0) 0 none 0 w6 hx79 (h11.pick [2, 0, 1, 3, 4] (by decide))
  · intro t82 t83 A80 c81 w85 hq110 h84
    (try rw [hq110] at h)
    dsimp only at h
    refine RunsI.go 2 [.c 37, .c 38, .c 41] (by kernel_rfl) ?_
    refine RunsI.region (by kernel_rfl) ?_
    refine RegI.pure 2 [1, 2, 3, 6, 7, 48] [(1, .int .i64 p1), (2, .int .u8 p2), (3, .pointer (some ⟨b2, 0, none⟩)), (6, .pointer (some ⟨b7, 0, none⟩)), (7, .slice A80 t82.length c81), (48, .bool (!t83))] (by kernel_rfl) ?_
    refine RegI.done (by kernel_rfl) ?_
    rcases of_cond h with ⟨hc86, h⟩ | ⟨hc86, h⟩
    · skip
      refine RunsI.fix 48 true hc86 (by kernel_rfl) (by kernel_rfl) ?_
      refine RunsI.cond true 39 (by kernel_rfl) ?_
      refine RunsI.region (by kernel_rfl) ?_
      refine RegI.pure 4 [3, 6, 49, 52] [(3, .pointer (some ⟨b2, 0, none⟩)), (6, .pointer (some ⟨b7, 0, none⟩)), (49, .slice A80 t82.length c81), (52, .agg #[.int .i64 p1, .int .u8 p2])] (by kernel_rfl) ?_
      refine RegI.op (by kernel_rfl) (OpE.lit 53 81 [.int .i64 p1, .int .u8 p2] 1 h84 (by kernel_rfl) (by kernel_rfl) ?_)
      intro w87 b88 h89 hb90 hn91
      obtain ⟨hc92, h⟩ := of_cond0 h
      refine RegI.op (by kernel_rfl) (OpE.appendBox 54 4 5 29 81 16 ([(p1, p2)] : List (Int × Int)) 0 h89 (by kernel_rfl) (by kernel_rfl) (by kernel_rfl) rfl rfl rfl (⟨[_, _], _, rfl, ⟨[_], [_], rfl, rfl, rfl⟩, rfl⟩) hc92 ?_)
      intro w93 A94 c95 h96 hk97
      refine RegI.pure 1 [3, 6, 7] [(3, .pointer (some ⟨b2, 0, none⟩)), (6, .pointer (some ⟨b7, 0, none⟩)), (7, .slice A94 ((t82 ++ ([(p1, p2)] : List (Int × Int))).length) c95)] (by kernel_rfl) ?_
      refine RegI.done (by kernel_rfl) ?_
      refine RunsI.go 1 [.c 42, .c 43] (by kernel_rfl) ?_
      refine RunsI.region (by kernel_rfl) ?_
      refine RegI.pure 2 [3, 6, 55, 56] [(3, .pointer (some ⟨b2, 0, none⟩)), (6, .pointer (some ⟨b7, 0, none⟩)), (55, .slice A94 ((t82 ++ ([(p1, p2)] : List (Int × Int))).length) c95), (56, .pointer (some ⟨b2, 3, none⟩))] (by kernel_rfl) ?_
      refine RegI.op (by kernel_rfl) (OpE.storeBox 0 29 b2 3 (.slice A94 ((t82 ++ ([(p1, p2)] : List (Int × Int))).length) c95) [.slice pA0_0 p0_0.length pc0_0, .int .i64 p0_1, .int .i64 p0_2, .slice A94 ((t82 ++ ([(p1, p2)] : List (Int × Int))).length) c95] h96 (by kernel_rfl) (by kernel_rfl) rfl (by kernel_rfl) (by kernel_rfl) (by kernel_rfl) ?_)
      intro w98 h99 hk100
      refine RegI.done (by kernel_rfl) ?_
      refine RunsI.go 1 [.c 44, .c 45] (by kernel_rfl) ?_
      refine RunsI.region (by kernel_rfl) ?_
      refine RegI.op (by kernel_rfl) (OpE.loadBox 57 0 31 b2 0 (.agg #[.slice pA0_0 p0_0.length pc0_0, .int .i64 p0_1, .int .i64 p0_2, .slice A94 ((t82 ++ ([(p1, p2)] : List (Int × Int))).length) c95]) h99 (by kernel_rfl) (by kernel_rfl) rfl (by kernel_rfl) ?_)
      refine RegI.op (by kernel_rfl) (OpE.storeBox 3 31 b7 0 (.agg #[.slice pA0_0 p0_0.length pc0_0, .int .i64 p0_1, .int .i64 p0_2, .slice A94 ((t82 ++ ([(p1, p2)] : List (Int × Int))).length) c95]) [.slice pA0_0 p0_0.length pc0_0, .int .i64 p0_1, .int .i64 p0_2, .slice A94 ((t82 ++ ([(p1, p2)] : List (Int × Int))).length) c95] h99 (by kernel_rfl) (by kernel_rfl) rfl (by kernel_rfl) (by kernel_rfl) (by kernel_rfl) ?_)
      intro w101 h102 hk103
      refine RegI.done (by kernel_rfl) ?_
      refine RunsI.toRet (by kernel_rfl) ?_
      refine RetI.valW [.cell 6 31] [.agg #[.slice pA0_0 p0_0.length pc0_0, .int .i64 p0_1, .int .i64 p0_2, .slice A94 ((t82 ++ ([(p1, p2)] : List (Int × Int))).length) c95]] (.agg #[.slice pA0_0 p0_0.length pc0_0, .int .i64 p0_1, .int .i64 p0_2, .slice A94 ((t82 ++ ([(p1, p2)] : List (Int × Int))).length) c95]) (by kernel_rfl) (ResAt.box 3 31 b7 0 h102 (by kernel_rfl) (by kernel_rfl) rfl (by kernel_rfl) rfl) (by kernel_rfl) ?_
      obtain rfl := Option.some.inj h
      exact ⟨pA0_0, pc0_0, A94, c95, rfl, h102.pick [1, 4] (by decide)⟩
    · skip
      refine RunsI.fix 48 false hc86 (by kernel_rfl) (by kernel_rfl) ?_
      refine RunsI.cond false 40 (by kernel_rfl) ?_
      refine RunsI.go 1 [.c 41] (by kernel_rfl) ?_
      refine RunsI.go 1 [.c 42, .c 43] (by kernel_rfl) ?_
      refine RunsI.region (by kernel_rfl) ?_
      refine RegI.pure 2 [3, 6, 55, 56] [(3, .pointer (some ⟨b2, 0, none⟩)), (6, .pointer (some ⟨b7, 0, none⟩)), (55, .slice A80 t82.length c81), (56, .pointer (some ⟨b2, 3, none⟩))] (by kernel_rfl) ?_
      refine RegI.op (by kernel_rfl) (OpE.storeBox 0 29 b2 3 (.slice A80 t82.length c81) [.slice pA0_0 p0_0.length pc0_0, .int .i64 p0_1, .int .i64 p0_2, .slice A80 t82.length c81] h84 (by kernel_rfl) (by kernel_rfl) rfl (by kernel_rfl) (by kernel_rfl) (by kernel_rfl) ?_)
      intro w104 h105 hk106
      refine RegI.done (by kernel_rfl) ?_
      refine RunsI.go 1 [.c 44, .c 45] (by kernel_rfl) ?_
      refine RunsI.region (by kernel_rfl) ?_
      refine RegI.op (by kernel_rfl) (OpE.loadBox 57 0 31 b2 0 (.agg #[.slice pA0_0 p0_0.length pc0_0, .int .i64 p0_1, .int .i64 p0_2, .slice A80 t82.length c81]) h105 (by kernel_rfl) (by kernel_rfl) rfl (by kernel_rfl) ?_)
      refine RegI.op (by kernel_rfl) (OpE.storeBox 3 31 b7 0 (.agg #[.slice pA0_0 p0_0.length pc0_0, .int .i64 p0_1, .int .i64 p0_2, .slice A80 t82.length c81]) [.slice pA0_0 p0_0.length pc0_0, .int .i64 p0_1, .int .i64 p0_2, .slice A80 t82.length c81] h105 (by kernel_rfl) (by kernel_rfl) rfl (by kernel_rfl) (by kernel_rfl) (by kernel_rfl) ?_)
      intro w107 h108 hk109
      refine RegI.done (by kernel_rfl) ?_
      refine RunsI.toRet (by kernel_rfl) ?_
      refine RetI.valW [.cell 6 31] [.agg #[.slice pA0_0 p0_0.length pc0_0, .int .i64 p0_1, .int .i64 p0_2, .slice A80 t82.length c81]] (.agg #[.slice pA0_0 p0_0.length pc0_0, .int .i64 p0_1, .int .i64 p0_2, .slice A80 t82.length c81]) (by kernel_rfl) (ResAt.box 3 31 b7 0 h108 (by kernel_rfl) (by kernel_rfl) rfl (by kernel_rfl) rfl) (by kernel_rfl) ?_
      obtain rfl := Option.some.inj h
      exact ⟨pA0_0, pc0_0, A80, c81, rfl, h108.pick [1, 4] (by decide)⟩
end

/-! ### charabanc/charabancref19.Write (function 79) -/
section
def charabancref19_Write_79.post (M0 : Nat → Prop) (w0 : World) (r : (List Int) × Int × Int × (List (Int × Int))) : Ending → World → Prop := fun e w => ∃ (A1 : Option Addr) (c1 : Nat) (A4 : Option Addr) (c4 : Nat), e = .returned (.agg #[.slice A1 r.1.length c1, .int .i64 r.2.1, .int .i64 r.2.2.1, .slice A4 r.2.2.2.length c4]) ∧ Holds M0 w0 w [sl (Rp.int .u8) (.slice A1 r.1.length c1) r.1, sl (Rp.pair (Rp.int .i64) (Rp.int .u8)) (.slice A4 r.2.2.2.length c4) r.2.2.2]
def charabancref19_Write_79.f (K : Nat) (p0_0 : List Int) (p0_1 : Int) (p0_2 : Int) (p0_3 : List (Int × Int)) (p1 : Int) (p2 : Int) : Option ((List Int) × Int × Int × (List (Int × Int))) := (charabancref19_Where_84.f K p0_0 p0_1 p0_2 p0_3 p1).bind fun yt15 => cond (!yt15.2) (some (p0_0, p0_1, p0_2, p0_3)) ((charabancref19_put_120.f K p0_0 p0_1 p0_2 p0_3 yt15.1 p2).bind fun yt25 => some (yt25.1, yt25.2.1, yt25.2.2.1, yt25.2.2.2))
set_option maxRecDepth 100000 in
theorem charabancref19_Write_79_ok (K : Nat) (M0 : Nat → Prop) (w0 : World) (pA0_0 : Option Addr) (pc0_0 : Nat) (pA0_3 : Option Addr) (pc0_3 : Nat) (p0_0 : List Int) (p0_1 : Int) (p0_2 : Int) (p0_3 : List (Int × Int)) (p1 : Int) (p2 : Int) (ho : ∀ b, M0 b → b < w0.heap.size) (hs0_0 : Sl (Rp.int .u8) w0 M0 (.slice pA0_0 p0_0.length pc0_0) p0_0) (hs0_3 : Sl (Rp.pair (Rp.int .i64) (Rp.int .u8)) w0 M0 (.slice pA0_3 p0_3.length pc0_3) p0_3) {r : (List Int) × Int × Int × (List (Int × Int))} (h : charabancref19_Write_79.f K p0_0 p0_1 p0_2 p0_3 p1 p2 = some r) :
    Calls Tryd.prog 79 #[.agg #[.slice pA0_0 p0_0.length pc0_0, .int .i64 p0_1, .int .i64 p0_2, .slice pA0_3 p0_3.length pc0_3], .int .u16 p1, .int .u8 p2] w0 (charabancref19_Write_79.post M0 w0 r) := by
  unfold charabancref19_Write_79.f at h
  have h0 : Holds M0 w0 w0 [] := Holds.start ho
  have h00_0 := h0.addSl (Rp.int .u8) (.slice pA0_0 p0_0.length pc0_0) p0_0 (hs0_0.mono (fun _ _ hm => hm.elim id (fun hm => absurd hm (by simp [mines, sl]))))
  have h00_3 := h00_0.addSl (Rp.pair (Rp.int .i64) (Rp.int .u8)) (.slice pA0_3 p0_3.length pc0_3) p0_3 (hs0_3.mono (fun _ _ hm => hm.elim id (fun hm => absurd hm (by simp [mines, sl]))))
  have h0 : Holds M0 w0 w0 [sl (Rp.int .u8) (.slice pA0_0 p0_0.length pc0_0) p0_0, sl (Rp.pair (Rp.int .i64) (Rp.int .u8)) (.slice pA0_3 p0_3.length pc0_3) p0_3] := h00_3
  refine calls_of F79 rfl [.agg #[.slice pA0_0 p0_0.length pc0_0, .int .i64 p0_1, .int .i64 p0_2, .slice pA0_3 p0_3.length pc0_3], .int .u16 p1, .int .u8 p2] (by kernel_rfl) ?_
  refine RunsI.go 1 [.c 1, .c 2] (by kernel_rfl) ?_
  refine RunsI.region (by kernel_rfl) ?_
  refine RegI.op (by kernel_rfl) (OpE.box 3 31 [.slice pA0_0 p0_0.length pc0_0, .int .i64 p0_1, .int .i64 p0_2, .slice pA0_3 p0_3.length pc0_3] h0 (by kernel_rfl) (by kernel_rfl) ?_)
  intro w1 b2 h3 hb4 hn5
  refine RegI.op (by kernel_rfl) (OpE.box 6 31 [.slice none 0 0, .int .i64 0, .int .i64 0, .slice none 0 0] h3 (by kernel_rfl) (by kernel_rfl) ?_)
  intro w6 b7 h8 hb9 hn10
  refine RegI.done (by kernel_rfl) ?_
  refine RunsI.go 1 [.c 3, .c 4] (by kernel_rfl) ?_
  refine RunsI.region (by kernel_rfl) ?_
  refine RegI.op (by kernel_rfl) (OpE.loadBox 10 2 31 b2 0 (.agg #[.slice pA0_0 p0_0.length pc0_0, .int .i64 p0_1, .int .i64 p0_2, .slice pA0_3 p0_3.length pc0_3]) h8 (by kernel_rfl) (by kernel_rfl) rfl (by kernel_rfl) ?_)
  refine RegI.pure 1 [2, 3, 6, 10, 11] [(2, .int .u8 p2), (3, .pointer (some ⟨b2, 0, none⟩)), (6, .pointer (some ⟨b7, 0, none⟩)), (10, .agg #[.slice pA0_0 p0_0.length pc0_0, .int .i64 p0_1, .int .i64 p0_2, .slice pA0_3 p0_3.length pc0_3]), (11, .int .u16 p1)] (by kernel_rfl) ?_
  obtain ⟨⟨t15, t16⟩, hg14, h⟩ := of_bind h
  dsimp only at h
  refine RegI.op (by kernel_rfl) (OpE.call 12 (by kernel_rfl) 84 #[.agg #[.slice pA0_0 p0_0.length pc0_0, .int .i64 p0_1, .int .i64 p0_2, .slice pA0_3 p0_3.length pc0_3], .int .u16 p1] (by kernel_rfl) ((charabancref19_Where_84_ok K _ w6  pA0_0 pc0_0 pA0_3 pc0_3 p0_0 p0_1 p0_2 p0_3 p1 h8.old' (h8.get 0 rfl) (h8.get 1 rfl) hg14).mono ?_))
  rintro _ w11 ⟨rfl, hb12⟩
  refine ⟨_, rfl, ?_⟩
  have h13 := h8.call hb12
  refine RegI.pure 5 [2, 3, 6, 7, 8] [(2, .int .u8 p2), (3, .pointer (some ⟨b2, 0, none⟩)), (6, .pointer (some ⟨b7, 0, none⟩)), (7, .int .i64 t15), (8, .bool t16)] (by kernel_rfl) ?_
  refine RegI.done (by kernel_rfl) ?_
  refine RunsI.go 2 [.c 6, .c 7, .c 12] (by kernel_rfl) ?_
  refine RunsI.region (by kernel_rfl) ?_
  refine RegI.pure 2 [2, 3, 6, 7, 16] [(2, .int .u8 p2), (3, .pointer (some ⟨b2, 0, none⟩)), (6, .pointer (some ⟨b7, 0, none⟩)), (7, .int .i64 t15), (16, .bool (!t16))] (by kernel_rfl) ?_
  refine RegI.done (by kernel_rfl) ?_
  rcases of_cond h with ⟨hc17, h⟩ | ⟨hc17, h⟩
  · skip
    refine RunsI.fix 16 true hc17 (by kernel_rfl) (by kernel_rfl) ?_
    refine RunsI.cond true 8 (by kernel_rfl) ?_
    refine RunsI.go 1 [.c 9, .c 10, .c 12] (by kernel_rfl) ?_
    refine RunsI.region (by kernel_rfl) ?_
    refine RegI.op (by kernel_rfl) (OpE.loadBox 17 2 31 b2 0 (.agg #[.slice pA0_0 p0_0.length pc0_0, .int .i64 p0_1, .int .i64 p0_2, .slice pA0_3 p0_3.length pc0_3]) h13 (by kernel_rfl) (by kernel_rfl) rfl (by kernel_rfl) ?_)
    refine RegI.op (by kernel_rfl) (OpE.storeBox 3 31 b7 0 (.agg #[.slice pA0_0 p0_0.length pc0_0, .int .i64 p0_1, .int .i64 p0_2, .slice pA0_3 p0_3.length pc0_3]) [.slice pA0_0 p0_0.length pc0_0, .int .i64 p0_1, .int .i64 p0_2, .slice pA0_3 p0_3.length pc0_3] h13 (by kernel_rfl) (by kernel_rfl) rfl (by kernel_rfl) (by kernel_rfl) (by kernel_rfl) ?_)
    intro w18 h19 hk20
    refine RegI.done (by kernel_rfl) ?_
    refine RunsI.toRet (by kernel_rfl) ?_
    refine RetI.valW [.cell 6 31] [.agg #[.slice pA0_0 p0_0.length pc0_0, .int .i64 p0_1, .int .i64 p0_2, .slice pA0_3 p0_3.length pc0_3]] (.agg #[.slice pA0_0 p0_0.length pc0_0, .int .i64 p0_1, .int .i64 p0_2, .slice pA0_3 p0_3.length pc0_3]) (by kernel_rfl) (ResAt.box 3 31 b7 0 h19 (by kernel_rfl) (by kernel_rfl) rfl (by kernel_rfl) rfl) (by kernel_rfl) ?_
    obtain rfl := Option.some.inj h
    exact ⟨pA0_0, pc0_0, pA0_3, pc0_3, rfl, h19.pick [0, 1] (by decide)⟩
  · skip
    refine RunsI.fix 16 false hc17 (by kernel_rfl) (by kernel_rfl) ?_
    refine RunsI.cond false 11 (by kernel_rfl) ?_
    refine RunsI.go 1 [.c 12] (by kernel_rfl) ?_
    refine RunsI.go 1 [.c 13, .c 14] (by kernel_rfl) ?_
    refine RunsI.region (by kernel_rfl) ?_
    refine RegI.op (by kernel_rfl) (OpE.loadBox 18 2 31 b2 0 (.agg #[.slice pA0_0 p0_0.length pc0_0, .int .i64 p0_1, .int .i64 p0_2, .slice pA0_3 p0_3.length pc0_3]) h13 (by kernel_rfl) (by kernel_rfl) rfl (by kernel_rfl) ?_)
    refine RegI.pure 2 [6, 18, 19, 20] [(6, .pointer (some ⟨b7, 0, none⟩)), (18, .agg #[.slice pA0_0 p0_0.length pc0_0, .int .i64 p0_1, .int .i64 p0_2, .slice pA0_3 p0_3.length pc0_3]), (19, .int .i64 t15), (20, .int .u8 p2)] (by kernel_rfl) ?_
    obtain ⟨⟨t25, t29, t30, t31⟩, hg24, h⟩ := of_bind h
    dsimp only at h
    refine RegI.op (by kernel_rfl) (OpE.call 21 (by kernel_rfl) 120 #[.agg #[.slice pA0_0 p0_0.length pc0_0, .int .i64 p0_1, .int .i64 p0_2, .slice pA0_3 p0_3.length pc0_3], .int .i64 t15, .int .u8 p2] (by kernel_rfl) ((charabancref19_put_120_ok K _ w11  pA0_0 pc0_0 pA0_3 pc0_3 p0_0 p0_1 p0_2 p0_3 t15 p2 h13.old' (h13.get 0 rfl) (h13.get 1 rfl) hg24).mono ?_))
    rintro _ w21 ⟨A26, c27, A32, c33, rfl, hr35⟩
    refine ⟨_, rfl, ?_⟩
    have hb22 := hr35.below
    have h23 := h13.join hr35
    refine RegI.op (by kernel_rfl) (OpE.storeBox 3 31 b7 0 (.agg #[.slice A26 t25.length c27, .int .i64 t29, .int .i64 t30, .slice A32 t31.length c33]) [.slice A26 t25.length c27, .int .i64 t29, .int .i64 t30, .slice A32 t31.length c33] h23 (by kernel_rfl) (by kernel_rfl) rfl (by kernel_rfl) (by kernel_rfl) (by kernel_rfl) ?_)
    intro w36 h37 hk38
    refine RegI.done (by kernel_rfl) ?_
    refine RunsI.toRet (by kernel_rfl) ?_
    refine RetI.valW [.cell 6 31] [.agg #[.slice A26 t25.length c27, .int .i64 t29, .int .i64 t30, .slice A32 t31.length c33]] (.agg #[.slice A26 t25.length c27, .int .i64 t29, .int .i64 t30, .slice A32 t31.length c33]) (by kernel_rfl) (ResAt.box 3 31 b7 0 h37 (by kernel_rfl) (by kernel_rfl) rfl (by kernel_rfl) rfl) (by kernel_rfl) ?_
    have h39 := h37.release 5 rfl
    obtain rfl := Option.some.inj h
    exact ⟨A26, c27, A32, c33, rfl, h39.pick [4, 5] (by decide)⟩
end

/-! ### charabanc/charabancref20.Device (function 80) -/
section
def charabancref20_Device_80.post (M0 : Nat → Prop) (w0 : World) (r : Int × Int) : Ending → World → Prop := fun e w => e = .returned (.tuple #[.int .i64 r.1, .int .i64 r.2]) ∧ Below w0.heap.size w0 w
def charabancref20_Device_80.f (K : Nat) (p0 : Int) : Option (Int × Int) := cond (decide ((IntKind.wrap .i64 p0) < 12)) (some ((IntKind.wrap .i64 (1 + (IntKind.wrap .i64 (Int.tdiv (IntKind.wrap .i64 p0) 4)))), (Int.tmod (IntKind.wrap .i64 p0) 4))) (cond ((IntKind.wrap .i64 p0) == 12) (some (4, 0)) (cond ((IntKind.wrap .i64 p0) == 14) (some (5, 0)) (cond ((IntKind.wrap .i64 p0) == 15) (some (6, 0)) (some (0, 0)))))
set_option maxRecDepth 100000 in
theorem charabancref20_Device_80_ok (K : Nat) (M0 : Nat → Prop) (w0 : World) (p0 : Int) (ho : ∀ b, M0 b → b < w0.heap.size) {r : Int × Int} (h : charabancref20_Device_80.f K p0 = some r) :
    Calls Tryd.prog 80 #[.int .u8 p0] w0 (charabancref20_Device_80.post M0 w0 r) := by
  unfold charabancref20_Device_80.f at h
  have h0 : Holds M0 w0 w0 [] := Holds.start ho
  have h0 : Holds M0 w0 w0 [] := h0
  refine calls_of F80 rfl [.int .u8 p0] (by kernel_rfl) ?_
  refine RunsI.go 1 [.c 1, .c 2] (by kernel_rfl) ?_
  refine RunsI.region (by kernel_rfl) ?_
  refine RegI.pure 2 [0] [(0, .int .u8 p0)] (by kernel_rfl) ?_
  refine RegI.done (by kernel_rfl) ?_
  refine RunsI.go 1 [.c 3, .c 4] (by kernel_rfl) ?_
  refine RunsI.region (by kernel_rfl) ?_
  refine RegI.pure 3 [4] [(4, .int .i64 (IntKind.wrap .i64 p0))] (by kernel_rfl) ?_
  refine RegI.done (by kernel_rfl) ?_
  refine RunsI.go 3 [.c 7, .c 8, .blk 0, .c 31] (by kernel_rfl) ?_
  refine RunsI.region (by kernel_rfl) ?_
  refine RegI.pure 3 [4, 7] [(4, .int .i64 (IntKind.wrap .i64 p0)), (7, .bool (decide ((IntKind.wrap .i64 p0) < 12)))] (by kernel_rfl) ?_
  refine RegI.done (by kernel_rfl) ?_
  rcases of_cond h with ⟨hc1, h⟩ | ⟨hc1, h⟩
  · skip
    refine RunsI.fix 7 true hc1 (by kernel_rfl) (by kernel_rfl) ?_
    refine RunsI.cond true 9 (by kernel_rfl) ?_
    refine RunsI.go 1 [.c 10, .c 11, .blk 0, .c 31] (by kernel_rfl) ?_
    refine RunsI.region (by kernel_rfl) ?_
    refine RegI.pure 7 [2, 3] [(2, .int .i64 (IntKind.wrap .i64 (1 + (IntKind.wrap .i64 (Int.tdiv (IntKind.wrap .i64 p0) 4))))), (3, .int .i64 (Int.tmod (IntKind.wrap .i64 p0) 4))] (by kernel_rfl) ?_
    refine RegI.done (by kernel_rfl) ?_
    refine RunsI.ret (.tuple #[.int .i64 (IntKind.wrap .i64 (1 + (IntKind.wrap .i64 (Int.tdiv (IntKind.wrap .i64 p0) 4)))), .int .i64 (Int.tmod (IntKind.wrap .i64 p0) 4)]) (by kernel_rfl) (by kernel_rfl) ?_
    obtain rfl := Option.some.inj h
    exact ⟨rfl, h0.below⟩
  · skip
    refine RunsI.fix 7 false hc1 (by kernel_rfl) (by kernel_rfl) ?_
    refine RunsI.cond false 12 (by kernel_rfl) ?_
    refine RunsI.go 1 [.c 13, .c 14, .blk 0, .c 31] (by kernel_rfl) ?_
    refine RunsI.region (by kernel_rfl) ?_
    refine RegI.pure 3 [4, 15] [(4, .int .i64 (IntKind.wrap .i64 p0)), (15, .bool ((IntKind.wrap .i64 p0) == 12))] (by kernel_rfl) ?_
    refine RegI.done (by kernel_rfl) ?_
    rcases of_cond h with ⟨hc2, h⟩ | ⟨hc2, h⟩
    · skip
      refine RunsI.fix 15 true hc2 (by kernel_rfl) (by kernel_rfl) ?_
      refine RunsI.cond true 15 (by kernel_rfl) ?_
      refine RunsI.go 1 [.c 16, .c 17, .blk 0, .c 31] (by kernel_rfl) ?_
      refine RunsI.region (by kernel_rfl) ?_
      refine RegI.pure 2 [2, 3] [(2, .int .i64 4), (3, .int .i64 0)] (by kernel_rfl) ?_
      refine RegI.done (by kernel_rfl) ?_
      refine RunsI.ret (.tuple #[.int .i64 4, .int .i64 0]) (by kernel_rfl) (by kernel_rfl) ?_
      obtain rfl := Option.some.inj h
      exact ⟨rfl, h0.below⟩
    · skip
      refine RunsI.fix 15 false hc2 (by kernel_rfl) (by kernel_rfl) ?_
      refine RunsI.cond false 18 (by kernel_rfl) ?_
      refine RunsI.go 1 [.c 19, .c 20, .blk 0, .c 31] (by kernel_rfl) ?_
      refine RunsI.region (by kernel_rfl) ?_
      refine RegI.pure 3 [4, 18] [(4, .int .i64 (IntKind.wrap .i64 p0)), (18, .bool ((IntKind.wrap .i64 p0) == 14))] (by kernel_rfl) ?_
      refine RegI.done (by kernel_rfl) ?_
      rcases of_cond h with ⟨hc3, h⟩ | ⟨hc3, h⟩
      · skip
        refine RunsI.fix 18 true hc3 (by kernel_rfl) (by kernel_rfl) ?_
        refine RunsI.cond true 21 (by kernel_rfl) ?_
        refine RunsI.go 1 [.c 22, .c 23, .blk 0, .c 31] (by kernel_rfl) ?_
        refine RunsI.region (by kernel_rfl) ?_
        refine RegI.pure 2 [2, 3] [(2, .int .i64 5), (3, .int .i64 0)] (by kernel_rfl) ?_
        refine RegI.done (by kernel_rfl) ?_
        refine RunsI.ret (.tuple #[.int .i64 5, .int .i64 0]) (by kernel_rfl) (by kernel_rfl) ?_
        obtain rfl := Option.some.inj h
        exact ⟨rfl, h0.below⟩
      · skip
        refine RunsI.fix 18 false hc3 (by kernel_rfl) (by kernel_rfl) ?_
        refine RunsI.cond false 24 (by kernel_rfl) ?_
        refine RunsI.go 1 [.c 25, .c 26, .blk 0, .c 31] (by kernel_rfl) ?_
        refine RunsI.region (by kernel_rfl) ?_
        refine RegI.pure 3 [21] [(21, .bool ((IntKind.wrap .i64 p0) == 15))] (by kernel_rfl) ?_
        refine RegI.done (by kernel_rfl) ?_
        rcases of_cond h with ⟨hc4, h⟩ | ⟨hc4, h⟩
        · skip
          refine RunsI.fix 21 true hc4 (by kernel_rfl) (by kernel_rfl) ?_
          refine RunsI.cond true 27 (by kernel_rfl) ?_
          refine RunsI.go 1 [.c 28, .c 29, .blk 0, .c 31] (by kernel_rfl) ?_
          refine RunsI.region (by kernel_rfl) ?_
          refine RegI.pure 2 [2, 3] [(2, .int .i64 6), (3, .int .i64 0)] (by kernel_rfl) ?_
          refine RegI.done (by kernel_rfl) ?_
          refine RunsI.ret (.tuple #[.int .i64 6, .int .i64 0]) (by kernel_rfl) (by kernel_rfl) ?_
          obtain rfl := Option.some.inj h
          exact ⟨rfl, h0.below⟩
        · skip
          refine RunsI.fix 21 false hc4 (by kernel_rfl) (by kernel_rfl) ?_
          refine RunsI.cond false 30 (by kernel_rfl) ?_
          refine RunsI.go 1 [.blk 0, .c 31] (by kernel_rfl) ?_
          refine RunsI.go 2 [.c 32, .c 33] (by kernel_rfl) ?_
          refine RunsI.region (by kernel_rfl) ?_
          refine RegI.pure 2 [2, 3] [(2, .int .i64 0), (3, .int .i64 0)] (by kernel_rfl) ?_
          refine RegI.done (by kernel_rfl) ?_
          refine RunsI.ret (.tuple #[.int .i64 0, .int .i64 0]) (by kernel_rfl) (by kernel_rfl) ?_
          obtain rfl := Option.some.inj h
          exact ⟨rfl, h0.below⟩
end

/-! ### charabanc/charabancref01.Lo (function 81) -/
section
def charabancref01_Lo_81.post (M0 : Nat → Prop) (w0 : World) (r : Int) : Ending → World → Prop := fun e w => e = .returned (.int .u8 r) ∧ Below w0.heap.size w0 w
def charabancref01_Lo_81.f (K : Nat) (p0 : Int) : Option Int := some (IntKind.wrap .u8 (Int.tmod (IntKind.wrap .i64 p0) 256))
set_option maxRecDepth 100000 in
theorem charabancref01_Lo_81_ok (K : Nat) (M0 : Nat → Prop) (w0 : World) (p0 : Int) (ho : ∀ b, M0 b → b < w0.heap.size) {r : Int} (h : charabancref01_Lo_81.f K p0 = some r) :
    Calls Tryd.prog 81 #[.int .u16 p0] w0 (charabancref01_Lo_81.post M0 w0 r) := by
  unfold charabancref01_Lo_81.f at h
  have h0 : Holds M0 w0 w0 [] := Holds.start ho
  have h0 : Holds M0 w0 w0 [] := h0
  refine calls_of F81 rfl [.int .u16 p0] (by kernel_rfl) ?_
  refine RunsI.go 1 [.c 1, .c 2] (by kernel_rfl) ?_
  refine RunsI.region (by kernel_rfl) ?_
  refine RegI.pure 1 [0] [(0, .int .u16 p0)] (by kernel_rfl) ?_
  refine RegI.done (by kernel_rfl) ?_
  refine RunsI.go 1 [.c 3, .c 4] (by kernel_rfl) ?_
  refine RunsI.region (by kernel_rfl) ?_
  refine RegI.pure 5 [2] [(2, .int .u8 (IntKind.wrap .u8 (Int.tmod (IntKind.wrap .i64 p0) 256)))] (by kernel_rfl) ?_
  refine RegI.done (by kernel_rfl) ?_
  refine RunsI.ret (.int .u8 (IntKind.wrap .u8 (Int.tmod (IntKind.wrap .i64 p0) 256))) (by kernel_rfl) (by kernel_rfl) ?_
  obtain rfl := Option.some.inj h
  exact ⟨rfl, h0.below⟩
end

/-! ### charabanc/charabancref19.Select (function 82) -/
section
def charabancref19_Select_82.post (M0 : Nat → Prop) (w0 : World) (r : (List Int) × Int × Int × (List (Int × Int))) : Ending → World → Prop := fun e w => ∃ (A1 : Option Addr) (c1 : Nat) (A4 : Option Addr) (c4 : Nat), e = .returned (.agg #[.slice A1 r.1.length c1, .int .i64 r.2.1, .int .i64 r.2.2.1, .slice A4 r.2.2.2.length c4]) ∧ Holds M0 w0 w [sl (Rp.int .u8) (.slice A1 r.1.length c1) r.1, sl (Rp.pair (Rp.int .i64) (Rp.int .u8)) (.slice A4 r.2.2.2.length c4) r.2.2.2]
def charabancref19_Select_82.f (K : Nat) (p0_0 : List Int) (p0_1 : Int) (p0_2 : Int) (p0_3 : List (Int × Int)) (p1 : Int) : Option ((List Int) × Int × Int × (List (Int × Int))) := cond (decide (p0_1 ≥ 1)) (cond (p0_1 != 0) (some (p0_0, p0_1, (Int.tmod (IntKind.wrap .i64 p1) p0_1), p0_3)) none) (some (p0_0, p0_1, p0_2, p0_3))
set_option maxRecDepth 100000 in
theorem charabancref19_Select_82_ok (K : Nat) (M0 : Nat → Prop) (w0 : World) (pA0_0 : Option Addr) (pc0_0 : Nat) (pA0_3 : Option Addr) (pc0_3 : Nat) (p0_0 : List Int) (p0_1 : Int) (p0_2 : Int) (p0_3 : List (Int × Int)) (p1 : Int) (ho : ∀ b, M0 b → b < w0.heap.size) (hs0_0 : Sl (Rp.int .u8) w0 M0 (.slice pA0_0 p0_0.length pc0_0) p0_0) (hs0_3 : Sl (Rp.pair (Rp.int .i64) (Rp.int .u8)) w0 M0 (.slice pA0_3 p0_3.length pc0_3) p0_3) {r : (List Int) × Int × Int × (List (Int × Int))} (h : charabancref19_Select_82.f K p0_0 p0_1 p0_2 p0_3 p1 = some r) :
    Calls Tryd.prog 82 #[.agg #[.slice pA0_0 p0_0.length pc0_0, .int .i64 p0_1, .int .i64 p0_2, .slice pA0_3 p0_3.length pc0_3], .int .u8 p1] w0 (charabancref19_Select_82.post M0 w0 r) := by
  unfold charabancref19_Select_82.f at h
  have h0 : Holds M0 w0 w0 [] := Holds.start ho
  have h00_0 := h0.addSl (Rp.int .u8) (.slice pA0_0 p0_0.length pc0_0) p0_0 (hs0_0.mono (fun _ _ hm => hm.elim id (fun hm => absurd hm (by simp [mines, sl]))))
  have h00_3 := h00_0.addSl (Rp.pair (Rp.int .i64) (Rp.int .u8)) (.slice pA0_3 p0_3.length pc0_3) p0_3 (hs0_3.mono (fun _ _ hm => hm.elim id (fun hm => absurd hm (by simp [mines, sl]))))
  have h0 : Holds M0 w0 w0 [sl (Rp.int .u8) (.slice pA0_0 p0_0.length pc0_0) p0_0, sl (Rp.pair (Rp.int .i64) (Rp.int .u8)) (.slice pA0_3 p0_3.length pc0_3) p0_3] := h00_3
  refine calls_of F82 rfl [.agg #[.slice pA0_0 p0_0.length pc0_0, .int .i64 p0_1, .int .i64 p0_2, .slice pA0_3 p0_3.length pc0_3], .int .u8 p1] (by kernel_rfl) ?_
  refine RunsI.go 1 [.c 1, .c 2] (by kernel_rfl) ?_
  refine RunsI.region (by kernel_rfl) ?_
  refine RegI.op (by kernel_rfl) (OpE.box 2 31 [.slice pA0_0 p0_0.length pc0_0, .int .i64 p0_1, .int .i64 p0_2, .slice pA0_3 p0_3.length pc0_3] h0 (by kernel_rfl) (by kernel_rfl) ?_)
  intro w1 b2 h3 hb4 hn5
  refine RegI.op (by kernel_rfl) (OpE.box 4 31 [.slice none 0 0, .int .i64 0, .int .i64 0, .slice none 0 0] h3 (by kernel_rfl) (by kernel_rfl) ?_)
  intro w6 b7 h8 hb9 hn10
  refine RegI.done (by kernel_rfl) ?_
  refine RunsI.go 2 [.c 4, .c 5, .c 8] (by kernel_rfl) ?_
  refine RunsI.region (by kernel_rfl) ?_
  refine RegI.pure 1 [1, 2, 4, 5] [(1, .int .u8 p1), (2, .pointer (some ⟨b2, 0, none⟩)), (4, .pointer (some ⟨b7, 0, none⟩)), (5, .pointer (some ⟨b2, 1, none⟩))] (by kernel_rfl) ?_
  refine RegI.op (by kernel_rfl) (OpE.loadBox 6 2 3 b2 1 (.int .i64 p0_1) h8 (by kernel_rfl) (by kernel_rfl) rfl (by kernel_rfl) ?_)
  refine RegI.pure 1 [1, 2, 4, 7] [(1, .int .u8 p1), (2, .pointer (some ⟨b2, 0, none⟩)), (4, .pointer (some ⟨b7, 0, none⟩)), (7, .bool (decide (p0_1 ≥ 1)))] (by kernel_rfl) ?_
  refine RegI.done (by kernel_rfl) ?_
  rcases of_cond h with ⟨hc11, h⟩ | ⟨hc11, h⟩
  · skip
    refine RunsI.fix 7 true hc11 (by kernel_rfl) (by kernel_rfl) ?_
    refine RunsI.cond true 6 (by kernel_rfl) ?_
    refine RunsI.region (by kernel_rfl) ?_
    refine RegI.pure 3 [2, 4, 9, 10] [(2, .pointer (some ⟨b2, 0, none⟩)), (4, .pointer (some ⟨b7, 0, none⟩)), (9, .int .i64 (IntKind.wrap .i64 p1)), (10, .pointer (some ⟨b2, 1, none⟩))] (by kernel_rfl) ?_
    refine RegI.op (by kernel_rfl) (OpE.loadBox 11 2 3 b2 1 (.int .i64 p0_1) h8 (by kernel_rfl) (by kernel_rfl) rfl (by kernel_rfl) ?_)
    obtain ⟨hc12, h⟩ := of_cond0 h
    refine RegI.op (by kernel_rfl) (OpE.run 12 (by kernel_rfl) (run_rem (k := .i64) (a := (IntKind.wrap .i64 p1)) (b := p0_1) (by kernel_rfl) hc12) ?_)
    refine RegI.pure 1 [2, 4, 12, 13] [(2, .pointer (some ⟨b2, 0, none⟩)), (4, .pointer (some ⟨b7, 0, none⟩)), (12, .int .i64 (Int.tmod (IntKind.wrap .i64 p1) p0_1)), (13, .pointer (some ⟨b2, 2, none⟩))] (by kernel_rfl) ?_
    refine RegI.op (by kernel_rfl) (OpE.storeBox 2 3 b2 2 (.int .i64 (Int.tmod (IntKind.wrap .i64 p1) p0_1)) [.slice pA0_0 p0_0.length pc0_0, .int .i64 p0_1, .int .i64 (Int.tmod (IntKind.wrap .i64 p1) p0_1), .slice pA0_3 p0_3.length pc0_3] h8 (by kernel_rfl) (by kernel_rfl) rfl (by kernel_rfl) (by kernel_rfl) (by kernel_rfl) ?_)
    intro w13 h14 hk15
    refine RegI.done (by kernel_rfl) ?_
    refine RunsI.go 1 [.c 9, .c 10] (by kernel_rfl) ?_
    refine RunsI.region (by kernel_rfl) ?_
    refine RegI.op (by kernel_rfl) (OpE.loadBox 14 2 31 b2 0 (.agg #[.slice pA0_0 p0_0.length pc0_0, .int .i64 p0_1, .int .i64 (Int.tmod (IntKind.wrap .i64 p1) p0_1), .slice pA0_3 p0_3.length pc0_3]) h14 (by kernel_rfl) (by kernel_rfl) rfl (by kernel_rfl) ?_)
    refine RegI.op (by kernel_rfl) (OpE.storeBox 3 31 b7 0 (.agg #[.slice pA0_0 p0_0.length pc0_0, .int .i64 p0_1, .int .i64 (Int.tmod (IntKind.wrap .i64 p1) p0_1), .slice pA0_3 p0_3.length pc0_3]) [.slice pA0_0 p0_0.length pc0_0, .int .i64 p0_1, .int .i64 (Int.tmod (IntKind.wrap .i64 p1) p0_1), .slice pA0_3 p0_3.length pc0_3] h14 (by kernel_rfl) (by kernel_rfl) rfl (by kernel_rfl) (by kernel_rfl) (by kernel_rfl) ?_)
    intro w16 h17 hk18
    refine RegI.done (by kernel_rfl) ?_
    refine RunsI.toRet (by kernel_rfl) ?_
    refine RetI.valW [.cell 4 31] [.agg #[.slice pA0_0 p0_0.length pc0_0, .int .i64 p0_1, .int .i64 (Int.tmod (IntKind.wrap .i64 p1) p0_1), .slice pA0_3 p0_3.length pc0_3]] (.agg #[.slice pA0_0 p0_0.length pc0_0, .int .i64 p0_1, .int .i64 (Int.tmod (IntKind.wrap .i64 p1) p0_1), .slice pA0_3 p0_3.length pc0_3]) (by kernel_rfl) (ResAt.box 3 31 b7 0 h17 (by kernel_rfl) (by kernel_rfl) rfl (by kernel_rfl) rfl) (by kernel_rfl) ?_
    obtain rfl := Option.some.inj h
    exact ⟨pA0_0, pc0_0, pA0_3, pc0_3, rfl, h17.pick [0, 1] (by decide)⟩
  · skip
    refine RunsI.fix 7 false hc11 (by kernel_rfl) (by kernel_rfl) ?_
    refine RunsI.cond false 7 (by kernel_rfl) ?_
    refine RunsI.go 1 [.c 8] (by kernel_rfl) ?_
    refine RunsI.go 1 [.c 9, .c 10] (by kernel_rfl) ?_
    refine RunsI.region (by kernel_rfl) ?_
    refine RegI.op (by kernel_rfl) (OpE.loadBox 14 2 31 b2 0 (.agg #[.slice pA0_0 p0_0.length pc0_0, .int .i64 p0_1, .int .i64 p0_2, .slice pA0_3 p0_3.length pc0_3]) h8 (by kernel_rfl) (by kernel_rfl) rfl (by kernel_rfl) ?_)
    refine RegI.op (by kernel_rfl) (OpE.storeBox 3 31 b7 0 (.agg #[.slice pA0_0 p0_0.length pc0_0, .int .i64 p0_1, .int .i64 p0_2, .slice pA0_3 p0_3.length pc0_3]) [.slice pA0_0 p0_0.length pc0_0, .int .i64 p0_1, .int .i64 p0_2, .slice pA0_3 p0_3.length pc0_3] h8 (by kernel_rfl) (by kernel_rfl) rfl (by kernel_rfl) (by kernel_rfl) (by kernel_rfl) ?_)
    intro w19 h20 hk21
    refine RegI.done (by kernel_rfl) ?_
    refine RunsI.toRet (by kernel_rfl) ?_
    refine RetI.valW [.cell 4 31] [.agg #[.slice pA0_0 p0_0.length pc0_0, .int .i64 p0_1, .int .i64 p0_2, .slice pA0_3 p0_3.length pc0_3]] (.agg #[.slice pA0_0 p0_0.length pc0_0, .int .i64 p0_1, .int .i64 p0_2, .slice pA0_3 p0_3.length pc0_3]) (by kernel_rfl) (ResAt.box 3 31 b7 0 h20 (by kernel_rfl) (by kernel_rfl) rfl (by kernel_rfl) rfl) (by kernel_rfl) ?_
    obtain rfl := Option.some.inj h
    exact ⟨pA0_0, pc0_0, pA0_3, pc0_3, rfl, h20.pick [0, 1] (by decide)⟩
end

/-! ### charabanc/charabancref29.behind (function 43) -/
section
def charabancref29_behind_43.post (M0 : Nat → Prop) (w0 : World) (r : (List Int) × Int × Int × (List (Int × Int))) : Ending → World → Prop := fun e w => ∃ (A1 : Option Addr) (c1 : Nat) (A4 : Option Addr) (c4 : Nat), e = .returned (.agg #[.slice A1 r.1.length c1, .int .i64 r.2.1, .int .i64 r.2.2.1, .slice A4 r.2.2.2.length c4]) ∧ Holds M0 w0 w [sl (Rp.int .u8) (.slice A1 r.1.length c1) r.1, sl (Rp.pair (Rp.int .i64) (Rp.int .u8)) (.slice A4 r.2.2.2.length c4) r.2.2.2]
def charabancref29_behind_43.f (K : Nat) (p0_0 : List Int) (p0_1 : Int) (p0_2 : Int) (p0_3 : List (Int × Int)) (p1_0 : Int) (p1_1 : Int) (p1_2 : Int) (p1_3 : Int) (p1_4 : Int) (p1_5 : Int) : Option ((List Int) × Int × Int × (List (Int × Int))) := cond (p1_2 == 3) ((charabancref19_Write_79.f K p0_0 p0_1 p0_2 p0_3 p1_3 p1_5).bind fun yt21 => some (yt21.1, yt21.2.1, yt21.2.2.1, yt21.2.2.2)) ((charabancref01_Lo_81.f K p1_3).bind fun t39 => (charabancref20_Device_80.f K t39).bind fun yt44 => Let (fun (t47 : Bool) => cond t47 ((charabancref19_Select_82.f K p0_0 p0_1 p0_2 p0_3 p1_5).bind fun yt58 => some (yt58.1, yt58.2.1, yt58.2.2.1, yt58.2.2.2)) (some (p0_0, p0_1, p0_2, p0_3))) (fun j50 => cond (p1_2 == 5) (j50 (yt44.1 == 5)) (j50 false)))
set_option maxRecDepth 100000 in
theorem charabancref29_behind_43_ok (K : Nat) (M0 : Nat → Prop) (w0 : World) (pA0_0 : Option Addr) (pc0_0 : Nat) (pA0_3 : Option Addr) (pc0_3 : Nat) (p0_0 : List Int) (p0_1 : Int) (p0_2 : Int) (p0_3 : List (Int × Int)) (p1_0 : Int) (p1_1 : Int) (p1_2 : Int) (p1_3 : Int) (p1_4 : Int) (p1_5 : Int) (ho : ∀ b, M0 b → b < w0.heap.size) (hs0_0 : Sl (Rp.int .u8) w0 M0 (.slice pA0_0 p0_0.length pc0_0) p0_0) (hs0_3 : Sl (Rp.pair (Rp.int .i64) (Rp.int .u8)) w0 M0 (.slice pA0_3 p0_3.length pc0_3) p0_3) {r : (List Int) × Int × Int × (List (Int × Int))} (h : charabancref29_behind_43.f K p0_0 p0_1 p0_2 p0_3 p1_0 p1_1 p1_2 p1_3 p1_4 p1_5 = some r) :
    Calls Tryd.prog 43 #[.agg #[.slice pA0_0 p0_0.length pc0_0, .int .i64 p0_1, .int .i64 p0_2, .slice pA0_3 p0_3.length pc0_3], .agg #[.int .i64 p1_0, .int .i64 p1_1, .int .i64 p1_2, .int .u16 p1_3, .int .i64 p1_4, .int .u8 p1_5]] w0 (charabancref29_behind_43.post M0 w0 r) := by
  unfold charabancref29_behind_43.f at h
  have h0 : Holds M0 w0 w0 [] := Holds.start ho
  have h00_0 := h0.addSl (Rp.int .u8) (.slice pA0_0 p0_0.length pc0_0) p0_0 (hs0_0.mono (fun _ _ hm => hm.elim id (fun hm => absurd hm (by simp [mines, sl]))))
  have h00_3 := h00_0.addSl (Rp.pair (Rp.int .i64) (Rp.int .u8)) (.slice pA0_3 p0_3.length pc0_3) p0_3 (hs0_3.mono (fun _ _ hm => hm.elim id (fun hm => absurd hm (by simp [mines, sl]))))
  have h0 : Holds M0 w0 w0 [sl (Rp.int .u8) (.slice pA0_0 p0_0.length pc0_0) p0_0, sl (Rp.pair (Rp.int .i64) (Rp.int .u8)) (.slice pA0_3 p0_3.length pc0_3) p0_3] := h00_3
  refine calls_of F43 rfl [.agg #[.slice pA0_0 p0_0.length pc0_0, .int .i64 p0_1, .int .i64 p0_2, .slice pA0_3 p0_3.length pc0_3], .agg #[.int .i64 p1_0, .int .i64 p1_1, .int .i64 p1_2, .int .u16 p1_3, .int .i64 p1_4, .int .u8 p1_5]] (by kernel_rfl) ?_
  refine RunsI.go 1 [.c 1, .c 2] (by kernel_rfl) ?_
  refine RunsI.region (by kernel_rfl) ?_
  refine RegI.op (by kernel_rfl) (OpE.box 2 31 [.slice pA0_0 p0_0.length pc0_0, .int .i64 p0_1, .int .i64 p0_2, .slice pA0_3 p0_3.length pc0_3] h0 (by kernel_rfl) (by kernel_rfl) ?_)
  intro w1 b2 h3 hb4 hn5
  refine RegI.op (by kernel_rfl) (OpE.box 3 54 [.int .i64 p1_0, .int .i64 p1_1, .int .i64 p1_2, .int .u16 p1_3, .int .i64 p1_4, .int .u8 p1_5] h3 (by kernel_rfl) (by kernel_rfl) ?_)
  intro w6 b7 h8 hb9 hn10
  refine RegI.op (by kernel_rfl) (OpE.box 4 31 [.slice none 0 0, .int .i64 0, .int .i64 0, .slice none 0 0] h8 (by kernel_rfl) (by kernel_rfl) ?_)
  intro w11 b12 h13 hb14 hn15
  refine RegI.done (by kernel_rfl) ?_
  refine RunsI.go 2 [.c 4, .c 5, .c 10] (by kernel_rfl) ?_
  refine RunsI.region (by kernel_rfl) ?_
  refine RegI.pure 1 [2, 3, 4, 7] [(2, .pointer (some ⟨b2, 0, none⟩)), (3, .pointer (some ⟨b7, 0, none⟩)), (4, .pointer (some ⟨b12, 0, none⟩)), (7, .pointer (some ⟨b7, 2, none⟩))] (by kernel_rfl) ?_
  refine RegI.op (by kernel_rfl) (OpE.loadBox 8 3 3 b7 2 (.int .i64 p1_2) h13 (by kernel_rfl) (by kernel_rfl) rfl (by kernel_rfl) ?_)
  refine RegI.pure 1 [2, 3, 4, 9] [(2, .pointer (some ⟨b2, 0, none⟩)), (3, .pointer (some ⟨b7, 0, none⟩)), (4, .pointer (some ⟨b12, 0, none⟩)), (9, .bool (p1_2 == 3))] (by kernel_rfl) ?_
  refine RegI.done (by kernel_rfl) ?_
  rcases of_cond h with ⟨hc16, h⟩ | ⟨hc16, h⟩
  · skip
    refine RunsI.fix 9 true hc16 (by kernel_rfl) (by kernel_rfl) ?_
    refine RunsI.cond true 6 (by kernel_rfl) ?_
    refine RunsI.go 1 [.c 7, .c 8, .c 10] (by kernel_rfl) ?_
    refine RunsI.region (by kernel_rfl) ?_
    refine RegI.op (by kernel_rfl) (OpE.loadBox 10 2 31 b2 0 (.agg #[.slice pA0_0 p0_0.length pc0_0, .int .i64 p0_1, .int .i64 p0_2, .slice pA0_3 p0_3.length pc0_3]) h13 (by kernel_rfl) (by kernel_rfl) rfl (by kernel_rfl) ?_)
    refine RegI.pure 1 [3, 4, 10, 11] [(3, .pointer (some ⟨b7, 0, none⟩)), (4, .pointer (some ⟨b12, 0, none⟩)), (10, .agg #[.slice pA0_0 p0_0.length pc0_0, .int .i64 p0_1, .int .i64 p0_2, .slice pA0_3 p0_3.length pc0_3]), (11, .pointer (some ⟨b7, 3, none⟩))] (by kernel_rfl) ?_
    refine RegI.op (by kernel_rfl) (OpE.loadBox 12 3 52 b7 3 (.int .u16 p1_3) h13 (by kernel_rfl) (by kernel_rfl) rfl (by kernel_rfl) ?_)
    refine RegI.pure 1 [4, 10, 12, 13] [(4, .pointer (some ⟨b12, 0, none⟩)), (10, .agg #[.slice pA0_0 p0_0.length pc0_0, .int .i64 p0_1, .int .i64 p0_2, .slice pA0_3 p0_3.length pc0_3]), (12, .int .u16 p1_3), (13, .pointer (some ⟨b7, 5, none⟩))] (by kernel_rfl) ?_
    refine RegI.op (by kernel_rfl) (OpE.loadBox 14 3 5 b7 5 (.int .u8 p1_5) h13 (by kernel_rfl) (by kernel_rfl) rfl (by kernel_rfl) ?_)
    obtain ⟨⟨t21, t25, t26, t27⟩, hg20, h⟩ := of_bind h
    dsimp only at h
    refine RegI.op (by kernel_rfl) (OpE.call 15 (by kernel_rfl) 79 #[.agg #[.slice pA0_0 p0_0.length pc0_0, .int .i64 p0_1, .int .i64 p0_2, .slice pA0_3 p0_3.length pc0_3], .int .u16 p1_3, .int .u8 p1_5] (by kernel_rfl) ((charabancref19_Write_79_ok K _ w11  pA0_0 pc0_0 pA0_3 pc0_3 p0_0 p0_1 p0_2 p0_3 p1_3 p1_5 h13.old' (h13.get 0 rfl) (h13.get 1 rfl) hg20).mono ?_))
    rintro _ w17 ⟨A22, c23, A28, c29, rfl, hr31⟩
    refine ⟨_, rfl, ?_⟩
    have hb18 := hr31.below
    have h19 := h13.join hr31
    refine RegI.op (by kernel_rfl) (OpE.storeBox 4 31 b12 0 (.agg #[.slice A22 t21.length c23, .int .i64 t25, .int .i64 t26, .slice A28 t27.length c29]) [.slice A22 t21.length c23, .int .i64 t25, .int .i64 t26, .slice A28 t27.length c29] h19 (by kernel_rfl) (by kernel_rfl) rfl (by kernel_rfl) (by kernel_rfl) (by kernel_rfl) ?_)
    intro w32 h33 hk34
    refine RegI.done (by kernel_rfl) ?_
    refine RunsI.toRet (by kernel_rfl) ?_
    refine RetI.valW [.cell 4 31] [.agg #[.slice A22 t21.length c23, .int .i64 t25, .int .i64 t26, .slice A28 t27.length c29]] (.agg #[.slice A22 t21.length c23, .int .i64 t25, .int .i64 t26, .slice A28 t27.length c29]) (by kernel_rfl) (ResAt.box 4 31 b12 0 h33 (by kernel_rfl) (by kernel_rfl) rfl (by kernel_rfl) rfl) (by kernel_rfl) ?_
    obtain rfl := Option.some.inj h
    exact ⟨A22, c23, A28, c29, rfl, h33.pick [5, 6] (by decide)⟩
  · skip
    refine RunsI.fix 9 false hc16 (by kernel_rfl) (by kernel_rfl) ?_
    refine RunsI.cond false 9 (by kernel_rfl) ?_
    refine RunsI.go 1 [.c 10] (by kernel_rfl) ?_
    refine RunsI.go 1 [.c 11, .c 12] (by kernel_rfl) ?_
    refine RunsI.region (by kernel_rfl) ?_
    refine RegI.pure 1 [2, 3, 4, 17] [(2, .pointer (some ⟨b2, 0, none⟩)), (3, .pointer (some ⟨b7, 0, none⟩)), (4, .pointer (some ⟨b12, 0, none⟩)), (17, .pointer (some ⟨b7, 3, none⟩))] (by kernel_rfl) ?_
    refine RegI.op (by kernel_rfl) (OpE.loadBox 18 3 52 b7 3 (.int .u16 p1_3) h13 (by kernel_rfl) (by kernel_rfl) rfl (by kernel_rfl) ?_)
    obtain ⟨t39, hg38, h⟩ := of_bind h
    refine RegI.op (by kernel_rfl) (OpE.call 19 (by kernel_rfl) 81 #[.int .u16 p1_3] (by kernel_rfl) ((charabancref01_Lo_81_ok K _ w11  p1_3 h13.old' hg38).mono ?_))
    rintro _ w35 ⟨rfl, hb36⟩
    refine ⟨_, rfl, ?_⟩
    have h37 := h13.call hb36
    obtain ⟨⟨t44, t45⟩, hg43, h⟩ := of_bind h
    dsimp only at h
    refine RegI.op (by kernel_rfl) (OpE.call 20 (by kernel_rfl) 80 #[.int .u8 t39] (by kernel_rfl) ((charabancref20_Device_80_ok K _ w35  t39 h37.old' hg43).mono ?_))
    rintro _ w40 ⟨rfl, hb41⟩
    refine ⟨_, rfl, ?_⟩
    have h42 := h37.call hb41
    refine RegI.pure 5 [2, 3, 4, 5] [(2, .pointer (some ⟨b2, 0, none⟩)), (3, .pointer (some ⟨b7, 0, none⟩)), (4, .pointer (some ⟨b12, 0, none⟩)), (5, .int .i64 t44)] (by kernel_rfl) ?_
    refine RegI.done (by kernel_rfl) ?_
    refine RunsI.go 2 [.c 14, .c 15, .c 20] (by kernel_rfl) ?_
    refine RunsI.region (by kernel_rfl) ?_
    refine RegI.pure 1 [2, 3, 4, 5, 23] [(2, .pointer (some ⟨b2, 0, none⟩)), (3, .pointer (some ⟨b7, 0, none⟩)), (4, .pointer (some ⟨b12, 0, none⟩)), (5, .int .i64 t44), (23, .pointer (some ⟨b7, 2, none⟩))] (by kernel_rfl) ?_
    refine RegI.op (by kernel_rfl) (OpE.loadBox 24 3 3 b7 2 (.int .i64 p1_2) h42 (by kernel_rfl) (by kernel_rfl) rfl (by kernel_rfl) ?_)
    refine RegI.pure 2 [2, 3, 4, 5, 26] [(2, .pointer (some ⟨b2, 0, none⟩)), (3, .pointer (some ⟨b7, 0, none⟩)), (4, .pointer (some ⟨b12, 0, none⟩)), (5, .int .i64 t44), (26, .bool (p1_2 == 5))] (by kernel_rfl) ?_
    obtain ⟨j50, hJ51, h⟩ := of_let h
    have hj52 : ∀ (t47 : Bool) (w49 : World), j50 t47 = some r → Holds M0 w0 w49 [box b2 31 [.slice pA0_0 p0_0.length pc0_0, .int .i64 p0_1, .int .i64 p0_2, .slice pA0_3 p0_3.length pc0_3], sl (Rp.int .u8) (.slice pA0_0 p0_0.length pc0_0) p0_0, sl (Rp.pair (Rp.int .i64) (Rp.int .u8)) (.slice pA0_3 p0_3.length pc0_3) p0_3, box b7 54 [.int .i64 p1_0, .int .i64 p1_1, .int .i64 p1_2, .int .u16 p1_3, .int .i64 p1_4, .int .u8 p1_5], box b12 31 [.slice none 0 0, .int .i64 0, .int .i64 0, .slice none 0 0]] → RegI F43 14 [.c 15, .c 20] 7 [(2, .pointer (some ⟨b2, 0, none⟩)), (3, .pointer (some ⟨b7, 0, none⟩)), (4, .pointer (some ⟨b12, 0, none⟩)), (29, .bool t47)] w49 (charabancref29_behind_43.post M0 w0 r) := by
      intro t47 w49 h h48
      rw [hJ51] at h
      clear hJ51
      dsimp only at h
      refine RegI.done (by kernel_rfl) ?_
      rcases of_cond h with ⟨hc53, h⟩ | ⟨hc53, h⟩
      · skip
        refine RunsI.fix 29 true hc53 (by kernel_rfl) (by kernel_rfl) ?_
        refine RunsI.cond true 16 (by kernel_rfl) ?_
        refine RunsI.go 1 [.c 17, .c 18, .c 20] (by kernel_rfl) ?_
        refine RunsI.region (by kernel_rfl) ?_
        refine RegI.op (by kernel_rfl) (OpE.loadBox 30 0 31 b2 0 (.agg #[.slice pA0_0 p0_0.length pc0_0, .int .i64 p0_1, .int .i64 p0_2, .slice pA0_3 p0_3.length pc0_3]) h48 (by kernel_rfl) (by kernel_rfl) rfl (by kernel_rfl) ?_)
        refine RegI.pure 1 [4, 30, 31] [(4, .pointer (some ⟨b12, 0, none⟩)), (30, .agg #[.slice pA0_0 p0_0.length pc0_0, .int .i64 p0_1, .int .i64 p0_2, .slice pA0_3 p0_3.length pc0_3]), (31, .pointer (some ⟨b7, 5, none⟩))] (by kernel_rfl) ?_
        refine RegI.op (by kernel_rfl) (OpE.loadBox 32 3 5 b7 5 (.int .u8 p1_5) h48 (by kernel_rfl) (by kernel_rfl) rfl (by kernel_rfl) ?_)
        obtain ⟨⟨t58, t62, t63, t64⟩, hg57, h⟩ := of_bind h
        dsimp only at h
        refine RegI.op (by kernel_rfl) (OpE.call 33 (by kernel_rfl) 82 #[.agg #[.slice pA0_0 p0_0.length pc0_0, .int .i64 p0_1, .int .i64 p0_2, .slice pA0_3 p0_3.length pc0_3], .int .u8 p1_5] (by kernel_rfl) ((charabancref19_Select_82_ok K _ w49  pA0_0 pc0_0 pA0_3 pc0_3 p0_0 p0_1 p0_2 p0_3 p1_5 h48.old' (h48.get 1 rfl) (h48.get 2 rfl) hg57).mono ?_))
        rintro _ w54 ⟨A59, c60, A65, c66, rfl, hr68⟩
        refine ⟨_, rfl, ?_⟩
        have hb55 := hr68.below
        have h56 := h48.join hr68
        refine RegI.op (by kernel_rfl) (OpE.storeBox 4 31 b12 0 (.agg #[.slice A59 t58.length c60, .int .i64 t62, .int .i64 t63, .slice A65 t64.length c66]) [.slice A59 t58.length c60, .int .i64 t62, .int .i64 t63, .slice A65 t64.length c66] h56 (by kernel_rfl) (by kernel_rfl) rfl (by kernel_rfl) (by kernel_rfl) (by kernel_rfl) ?_)
        intro w69 h70 hk71
        refine RegI.done (by kernel_rfl) ?_
        refine RunsI.toRet (by kernel_rfl) ?_
        refine RetI.valW [.cell 4 31] [.agg #[.slice A59 t58.length c60, .int .i64 t62, .int .i64 t63, .slice A65 t64.length c66]] (.agg #[.slice A59 t58.length c60, .int .i64 t62, .int .i64 t63, .slice A65 t64.length c66]) (by kernel_rfl) (ResAt.box 4 31 b12 0 h70 (by kernel_rfl) (by kernel_rfl) rfl (by kernel_rfl) rfl) (by kernel_rfl) ?_
        obtain rfl := Option.some.inj h
        exact ⟨A59, c60, A65, c66, rfl, h70.pick [5, 6] (by decide)⟩
      · skip
        refine RunsI.fix 29 false hc53 (by kernel_rfl) (by kernel_rfl) ?_
        refine RunsI.cond false 19 (by kernel_rfl) ?_
        refine RunsI.go 1 [.c 20] (by kernel_rfl) ?_
        refine RunsI.go 1 [.c 21, .c 22] (by kernel_rfl) ?_
        refine RunsI.region (by kernel_rfl) ?_
        refine RegI.op (by kernel_rfl) (OpE.loadBox 34 0 31 b2 0 (.agg #[.slice pA0_0 p0_0.length pc0_0, .int .i64 p0_1, .int .i64 p0_2, .slice pA0_3 p0_3.length pc0_3]) h48 (by kernel_rfl) (by kernel_rfl) rfl (by kernel_rfl) ?_)
        refine RegI.op (by kernel_rfl) (OpE.storeBox 4 31 b12 0 (.agg #[.slice pA0_0 p0_0.length pc0_0, .int .i64 p0_1, .int .i64 p0_2, .slice pA0_3 p0_3.length pc0_3]) [.slice pA0_0 p0_0.length pc0_0, .int .i64 p0_1, .int .i64 p0_2, .slice pA0_3 p0_3.length pc0_3] h48 (by kernel_rfl) (by kernel_rfl) rfl (by kernel_rfl) (by kernel_rfl) (by kernel_rfl) ?_)
        intro w72 h73 hk74
        refine RegI.done (by kernel_rfl) ?_
        refine RunsI.toRet (by kernel_rfl) ?_
        refine RetI.valW [.cell 4 31] [.agg #[.slice pA0_0 p0_0.length pc0_0, .int .i64 p0_1, .int .i64 p0_2, .slice pA0_3 p0_3.length pc0_3]] (.agg #[.slice pA0_0 p0_0.length pc0_0, .int .i64 p0_1, .int .i64 p0_2, .slice pA0_3 p0_3.length pc0_3]) (by kernel_rfl) (ResAt.box 4 31 b12 0 h73 (by kernel_rfl) (by kernel_rfl) rfl (by kernel_rfl) rfl) (by kernel_rfl) ?_
        obtain rfl := Option.some.inj h
        exact ⟨pA0_0, pc0_0, pA0_3, pc0_3, rfl, h73.pick [1, 2] (by decide)⟩
    clear hJ51
    rcases of_cond h with ⟨hc46, h⟩ | ⟨hc46, h⟩
    · skip
      refine RegI.fix 26 true hc46 (by kernel_rfl) (by kernel_rfl) ?_
      refine RegI.pure 3 [2, 3, 4, 29] [(2, .pointer (some ⟨b2, 0, none⟩)), (3, .pointer (some ⟨b7, 0, none⟩)), (4, .pointer (some ⟨b12, 0, none⟩)), (29, .bool (t44 == 5))] (by kernel_rfl) ?_
      refine RegI.only [2, 3, 4, 29] [(2, .pointer (some ⟨b2, 0, none⟩)), (3, .pointer (some ⟨b7, 0, none⟩)), (4, .pointer (some ⟨b12, 0, none⟩)), (29, .bool (t44 == 5))] (by kernel_rfl) (by kernel_rfl) ?_
      exact hj52 (t44 == 5) w40 h (h42.pick [2, 0, 1, 3, 4] (by decide))
    · skip
      refine RegI.fix 26 false hc46 (by kernel_rfl) (by kernel_rfl) ?_
      refine RegI.pure 3 [2, 3, 4, 29] [(2, .pointer (some ⟨b2, 0, none⟩)), (3, .pointer (some ⟨b7, 0, none⟩)), (4, .pointer (some ⟨b12, 0, none⟩)), (29, .bool false)] (by kernel_rfl) ?_
      refine RegI.only [2, 3, 4, 29] [(2, .pointer (some ⟨b2, 0, none⟩)), (3, .pointer (some ⟨b7, 0, none⟩)), (4, .pointer (some ⟨b12, 0, none⟩)), (29, .bool false)] (by kernel_rfl) (by kernel_rfl) ?_
      exact hj52 false w40 h (h42.pick [2, 0, 1, 3, 4] (by decide))
end

/-! ### charabanc/charabancref29.Behind (function 11) -/
section
def charabancref29_Behind_11.post (M0 : Nat → Prop) (w0 : World) (r : (List Int) × Int × Int × (List (Int × Int))) : Ending → World → Prop := fun e w => ∃ (A1 : Option Addr) (c1 : Nat) (A4 : Option Addr) (c4 : Nat), e = .returned (.agg #[.slice A1 r.1.length c1, .int .i64 r.2.1, .int .i64 r.2.2.1, .slice A4 r.2.2.2.length c4]) ∧ Holds M0 w0 w [sl (Rp.int .u8) (.slice A1 r.1.length c1) r.1, sl (Rp.pair (Rp.int .i64) (Rp.int .u8)) (.slice A4 r.2.2.2.length c4) r.2.2.2]
def charabancref29_Behind_11.l0 (K : Nat) (p0_0 : List Int) (p0_1 : Int) (p0_2 : Int) (p0_3 : List (Int × Int)) (p1 : List (Int × Int × Int × Int × Int × Int)) : Nat → (List Int) → Int → Int → (List (Int × Int)) → Int → Option ((List Int) × Int × Int × (List (Int × Int)))
  | 0, _, _, _, _, _ => none
  | k + 1, t14, t15, t16, t19, t21 => cond (decide (t21 < (p1.length : Int))) (cond (inR t21 p1.length) ((charabancref29_behind_43.f K t14 t15 t16 t19 ((rdD p1 t21).1) ((rdD p1 t21).2.1) ((rdD p1 t21).2.2.1) ((rdD p1 t21).2.2.2.1) ((rdD p1 t21).2.2.2.2.1) ((rdD p1 t21).2.2.2.2.2)).bind fun yt41 => charabancref29_Behind_11.l0 K p0_0 p0_1 p0_2 p0_3 p1 k yt41.1 yt41.2.1 yt41.2.2.1 yt41.2.2.2 (IntKind.wrap .i64 (t21 + 1))) none) (some (t14, t15, t16, t19))
set_option maxRecDepth 100000 in
theorem charabancref29_Behind_11.l0_ok (K : Nat) (M0 : Nat → Prop) (w0 : World) (pA0_0 : Option Addr) (pc0_0 : Nat) (pA0_3 : Option Addr) (pc0_3 : Nat) (pA1 : Option Addr) (pc1 : Nat) (p0_0 : List Int) (p0_1 : Int) (p0_2 : Int) (p0_3 : List (Int × Int)) (p1 : List (Int × Int × Int × Int × Int × Int)) (b11 : Nat) (b20 : Nat) (R : Ending → World → Prop) (x : (List Int) × Int × Int × (List (Int × Int))) (hk0 : ∀ (t66 : List Int) (t67 : Int) (t68 : Int) (t71 : List (Int × Int)) (A64 : Option Addr) (c65 : Nat) (A69 : Option Addr) (c70 : Nat) (w1 : World), x = (t66, t67, t68, t71) → Holds M0 w0 w1 [box b11 31 [.slice A64 t66.length c65, .int .i64 t67, .int .i64 t68, .slice A69 t71.length c70], sl (Rp.int .u8) (.slice A64 t66.length c65) t66, sl (Rp.pair (Rp.int .i64) (Rp.int .u8)) (.slice A69 t71.length c70) t71, box b20 31 [.slice none 0 0, .int .i64 0, .int .i64 0, .slice none 0 0]] → RunsI F11 [.c 17] [(2, .pointer (some ⟨b11, 0, none⟩)), (4, .pointer (some ⟨b20, 0, none⟩))] w1 R) :
    ∀ (k : Nat) (t14 : List Int) (t15 : Int) (t16 : Int) (t19 : List (Int × Int)) (t21 : Int) (A12 : Option Addr) (c13 : Nat) (A17 : Option Addr) (c18 : Nat) (w : World), charabancref29_Behind_11.l0 K p0_0 p0_1 p0_2 p0_3 p1 k t14 t15 t16 t19 t21 = some x → Holds M0 w0 w [sl (Rp.pair (Rp.int .i64) (Rp.pair (Rp.int .i64) (Rp.pair (Rp.int .i64) (Rp.pair (Rp.int .u16) (Rp.pair (Rp.int .i64) (Rp.int .u8)))))) (.slice pA1 p1.length pc1) p1, box b11 31 [.slice A12 t14.length c13, .int .i64 t15, .int .i64 t16, .slice A17 t19.length c18], sl (Rp.int .u8) (.slice A12 t14.length c13) t14, sl (Rp.pair (Rp.int .i64) (Rp.int .u8)) (.slice A17 t19.length c18) t19, box b20 31 [.slice none 0 0, .int .i64 0, .int .i64 0, .slice none 0 0]] → RunsI F11 [.c 7, .lp 7, .blk 0, .c 17] [(1, .slice pA1 p1.length pc1), (2, .pointer (some ⟨b11, 0, none⟩)), (4, .pointer (some ⟨b20, 0, none⟩)), (5, .int .i64 t21)] w R := by
  intro k
  induction k with
  | zero => intro t14 t15 t16 t19 t21 A12 c13 A17 c18 w h hH; exact absurd h (by simp [charabancref29_Behind_11.l0])
  | succ k ih =>
    intro t14 t15 t16 t19 t21 A12 c13 A17 c18 w h hH
    rw [charabancref29_Behind_11.l0.eq_2] at h
    refine RunsI.go 1 [.c 8, .c 13, .lp 7, .blk 0, .c 17] (by kernel_rfl) ?_
    refine RunsI.go 1 [.c 9, .c 10, .c 13, .lp 7, .blk 0, .c 17] (by kernel_rfl) ?_
    refine RunsI.region (by kernel_rfl) ?_
    refine RegI.pure 4 [1, 2, 4, 5, 9] [(1, .slice pA1 p1.length pc1), (2, .pointer (some ⟨b11, 0, none⟩)), (4, .pointer (some ⟨b20, 0, none⟩)), (5, .int .i64 t21), (9, .bool (decide (t21 < (p1.length : Int))))] (by kernel_rfl) ?_
    refine RegI.done (by kernel_rfl) ?_
    rcases of_cond h with ⟨hc22, h⟩ | ⟨hc22, h⟩
    · skip
      refine RunsI.fix 9 true hc22 (by kernel_rfl) (by kernel_rfl) ?_
      refine RunsI.cond true 11 (by kernel_rfl) ?_
      refine RunsI.go 1 [.c 13, .lp 7, .blk 0, .c 17] (by kernel_rfl) ?_
      refine RunsI.go 2 [.c 15, .blk 1, .c 16, .lp 7, .blk 0, .c 17] (by kernel_rfl) ?_
      refine RunsI.any 7 (by kernel_rfl) (by kernel_rfl) (by kernel_rfl) (Kp ([] : List Nat) (World.drew w)) ?_
      have h24 := hH.drew
      generalize World.drew w = w23 at h24 ⊢
      have hS25 := Kp.refl ([] : List Nat) w23
      refine AnyE.loadBox 0 12 1 31 b11 0 (.agg #[.slice A12 t14.length c13, .int .i64 t15, .int .i64 t16, .slice A17 t19.length c18]) [] h24 rfl (by kernel_rfl) hS25 rfl rfl (by kernel_rfl) (by kernel_rfl) ?_
      refine AnyE.pure 1 13 (.slice pA1 p1.length pc1) (by kernel_rfl) hS25 (fun _ => by kernel_rfl) ?_
      refine AnyE.pure 2 14 (.int .i64 t21) (by kernel_rfl) hS25 (fun _ => by kernel_rfl) ?_
      obtain ⟨hc27, h⟩ := of_cond0 h
      refine AnyE.idxSl 3 15 0 26 t21 h24 (by kernel_rfl) hS25 rfl (by kernel_rfl) (by kernel_rfl) hc27 ?_
      intro b28 o29 cs30 hk31 h32
      obtain ⟨_, _, rfl, rfl, ⟨_, _, rfl, rfl, ⟨_, _, rfl, rfl, ⟨_, _, rfl, rfl, ⟨_, _, rfl, rfl, rfl⟩⟩⟩⟩⟩ := hk31
      refine AnyE.loadCel 4 16 5 54 b28 o29 0 (.agg #[.int .i64 ((rdD p1 t21).1), .int .i64 ((rdD p1 t21).2.1), .int .i64 ((rdD p1 t21).2.2.1), .int .u16 ((rdD p1 t21).2.2.2.1), .int .i64 ((rdD p1 t21).2.2.2.2.1), .int .u8 ((rdD p1 t21).2.2.2.2.2)]) [] h32 rfl (by kernel_rfl) hS25 rfl rfl (by kernel_rfl) (by kernel_rfl) ?_
      refine AnyE.one 5 (by kernel_rfl) (fun w33 hu34 => ?_)
      have h35 := h32.call hu34
      have hS36 := hS25.up hu34
      obtain ⟨⟨t41, t45, t46, t47⟩, hg40, h⟩ := of_bind h
      dsimp only at h
      refine OpE.call 17 (by kernel_rfl) 43 #[.agg #[.slice A12 t14.length c13, .int .i64 t15, .int .i64 t16, .slice A17 t19.length c18], .agg #[.int .i64 ((rdD p1 t21).1), .int .i64 ((rdD p1 t21).2.1), .int .i64 ((rdD p1 t21).2.2.1), .int .u16 ((rdD p1 t21).2.2.2.1), .int .i64 ((rdD p1 t21).2.2.2.2.1), .int .u8 ((rdD p1 t21).2.2.2.2.2)]] (by kernel_rfl) ((charabancref29_behind_43_ok K _ w33  A12 c13 A17 c18 t14 t15 t16 t19 ((rdD p1 t21).1) ((rdD p1 t21).2.1) ((rdD p1 t21).2.2.1) ((rdD p1 t21).2.2.2.1) ((rdD p1 t21).2.2.2.2.1) ((rdD p1 t21).2.2.2.2.2) h35.old' (h35.get 2 rfl) (h35.get 3 rfl) hg40).mono ?_)
      rintro _ w37 ⟨A42, c43, A48, c49, rfl, hr51⟩
      refine ⟨_, rfl, ?_⟩
      have hb38 := hr51.below
      have h39 := h35.join hr51
      have hS52 := hS36.up hb38
      refine ⟨hS52, ?_⟩
      refine AnyE.last 6 (by kernel_rfl) (by kernel_rfl) (fun w53 hu54 => ?_)
      have h55 := h39.call hu54
      have hS56 := hS52.up hu54
      refine OpE.storeBox 1 31 b11 0 (.agg #[.slice A42 t41.length c43, .int .i64 t45, .int .i64 t46, .slice A48 t47.length c49]) [.slice A42 t41.length c43, .int .i64 t45, .int .i64 t46, .slice A48 t47.length c49] h55 (by kernel_rfl) (by kernel_rfl) rfl (by kernel_rfl) (by kernel_rfl) (by kernel_rfl) ?_
      intro w57 h58 hk59
      refine AnyE.done (by kernel_rfl) (fun w61 hu62 => ?_)
      have h63 := h58.call hu62
      refine RunsI.only [1, 2, 4, 5] [(1, .slice pA1 p1.length pc1), (2, .pointer (some ⟨b11, 0, none⟩)), (4, .pointer (some ⟨b20, 0, none⟩)), (5, .int .i64 t21)] (by kernel_rfl) (by kernel_rfl) ?_
      refine RunsI.go 1 [.c 16, .lp 7, .blk 0, .c 17] (by kernel_rfl) ?_
      refine RunsI.region (by kernel_rfl) ?_
      refine RegI.pure 3 [1, 2, 4, 5] [(1, .slice pA1 p1.length pc1), (2, .pointer (some ⟨b11, 0, none⟩)), (4, .pointer (some ⟨b20, 0, none⟩)), (5, .int .i64 (IntKind.wrap .i64 (t21 + 1)))] (by kernel_rfl) ?_
      refine RegI.done (by kernel_rfl) ?_
      refine RunsI.go 1 [.c 7, .lp 7, .blk 0, .c 17] (by kernel_rfl) ?_
      refine RunsI.only [1, 2, 4, 5] [(1, .slice pA1 p1.length pc1), (2, .pointer (some ⟨b11, 0, none⟩)), (4, .pointer (some ⟨b20, 0, none⟩)), (5, .int .i64 (IntKind.wrap .i64 (t21 + 1)))] (by kernel_rfl) (by kernel_rfl) ?_
      exact ih t41 t45 t46 t47 (IntKind.wrap .i64 (t21 + 1)) A42 c43 A48 c49 w61 h (h63.pick [0, 1, 6, 7, 4] (by decide))
    · skip
      refine RunsI.fix 9 false hc22 (by kernel_rfl) (by kernel_rfl) ?_
      refine RunsI.cond false 12 (by kernel_rfl) ?_
      refine RunsI.go 1 [.c 17] (by kernel_rfl) ?_
      refine RunsI.only [2, 4] [(2, .pointer (some ⟨b11, 0, none⟩)), (4, .pointer (some ⟨b20, 0, none⟩))] (by kernel_rfl) (by kernel_rfl) ?_
      exact hk0 t14 t15 t16 t19 A12 c13 A17 c18 w (Option.some.inj h).symm (hH.pick [1, 2, 3, 4] (by decide))
def charabancref29_Behind_11.f (K : Nat) (p0_0 : List Int) (p0_1 : Int) (p0_2 : Int) (p0_3 : List (Int × Int)) (p1 : List (Int × Int × Int × Int × Int × Int)) : Option ((List Int) × Int × Int × (List (Int × Int))) := (charabancref29_Behind_11.l0 K p0_0 p0_1 p0_2 p0_3 p1 K p0_0 p0_1 p0_2 p0_3 0).bind (fun yx72 => some (yx72.1, yx72.2.1, yx72.2.2.1, yx72.2.2.2))
set_option maxRecDepth 100000 in
theorem charabancref29_Behind_11_ok (K : Nat) (M0 : Nat → Prop) (w0 : World) (pA0_0 : Option Addr) (pc0_0 : Nat) (pA0_3 : Option Addr) (pc0_3 : Nat) (pA1 : Option Addr) (pc1 : Nat) (p0_0 : List Int) (p0_1 : Int) (p0_2 : Int) (p0_3 : List (Int × Int)) (p1 : List (Int × Int × Int × Int × Int × Int)) (ho : ∀ b, M0 b → b < w0.heap.size) (hs0_0 : Sl (Rp.int .u8) w0 M0 (.slice pA0_0 p0_0.length pc0_0) p0_0) (hs0_3 : Sl (Rp.pair (Rp.int .i64) (Rp.int .u8)) w0 M0 (.slice pA0_3 p0_3.length pc0_3) p0_3) (hs1 : Sl (Rp.pair (Rp.int .i64) (Rp.pair (Rp.int .i64) (Rp.pair (Rp.int .i64) (Rp.pair (Rp.int .u16) (Rp.pair (Rp.int .i64) (Rp.int .u8)))))) w0 M0 (.slice pA1 p1.length pc1) p1) {r : (List Int) × Int × Int × (List (Int × Int))} (h : charabancref29_Behind_11.f K p0_0 p0_1 p0_2 p0_3 p1 = some r) :
    Calls Tryd.prog 11 #[.agg #[.slice pA0_0 p0_0.length pc0_0, .int .i64 p0_1, .int .i64 p0_2, .slice pA0_3 p0_3.length pc0_3], .slice pA1 p1.length pc1] w0 (charabancref29_Behind_11.post M0 w0 r) := by
  unfold charabancref29_Behind_11.f at h
  have h0 : Holds M0 w0 w0 [] := Holds.start ho
  have h00_0 := h0.addSl (Rp.int .u8) (.slice pA0_0 p0_0.length pc0_0) p0_0 (hs0_0.mono (fun _ _ hm => hm.elim id (fun hm => absurd hm (by simp [mines, sl]))))
  have h00_3 := h00_0.addSl (Rp.pair (Rp.int .i64) (Rp.int .u8)) (.slice pA0_3 p0_3.length pc0_3) p0_3 (hs0_3.mono (fun _ _ hm => hm.elim id (fun hm => absurd hm (by simp [mines, sl]))))
  have h01 := h00_3.addSl (Rp.pair (Rp.int .i64) (Rp.pair (Rp.int .i64) (Rp.pair (Rp.int .i64) (Rp.pair (Rp.int .u16) (Rp.pair (Rp.int .i64) (Rp.int .u8)))))) (.slice pA1 p1.length pc1) p1 (hs1.mono (fun _ _ hm => hm.elim id (fun hm => absurd hm (by simp [mines, sl]))))
  have h0 : Holds M0 w0 w0 [sl (Rp.int .u8) (.slice pA0_0 p0_0.length pc0_0) p0_0, sl (Rp.pair (Rp.int .i64) (Rp.int .u8)) (.slice pA0_3 p0_3.length pc0_3) p0_3, sl (Rp.pair (Rp.int .i64) (Rp.pair (Rp.int .i64) (Rp.pair (Rp.int .i64) (Rp.pair (Rp.int .u16) (Rp.pair (Rp.int .i64) (Rp.int .u8)))))) (.slice pA1 p1.length pc1) p1] := h01
  refine calls_of F11 rfl [.agg #[.slice pA0_0 p0_0.length pc0_0, .int .i64 p0_1, .int .i64 p0_2, .slice pA0_3 p0_3.length pc0_3], .slice pA1 p1.length pc1] (by kernel_rfl) ?_
  refine RunsI.go 1 [.c 1, .c 2] (by kernel_rfl) ?_
  refine RunsI.region (by kernel_rfl) ?_
  refine RegI.op (by kernel_rfl) (OpE.box 2 31 [.slice pA0_0 p0_0.length pc0_0, .int .i64 p0_1, .int .i64 p0_2, .slice pA0_3 p0_3.length pc0_3] h0 (by kernel_rfl) (by kernel_rfl) ?_)
  intro w1 b2 h3 hb4 hn5
  refine RegI.op (by kernel_rfl) (OpE.box 4 31 [.slice none 0 0, .int .i64 0, .int .i64 0, .slice none 0 0] h3 (by kernel_rfl) (by kernel_rfl) ?_)
  intro w6 b7 h8 hb9 hn10
  refine RegI.done (by kernel_rfl) ?_
  refine RunsI.go 2 [.c 4, .c 5, .c 17] (by kernel_rfl) ?_
  refine RunsI.region (by kernel_rfl) ?_
  refine RegI.pure 1 [1, 2, 4, 5] [(1, .slice pA1 p1.length pc1), (2, .pointer (some ⟨b2, 0, none⟩)), (4, .pointer (some ⟨b7, 0, none⟩)), (5, .int .i64 0)] (by kernel_rfl) ?_
  refine RegI.done (by kernel_rfl) ?_
  refine RunsI.go 2 [.c 7, .lp 7, .blk 0, .c 17] (by kernel_rfl) ?_
  obtain ⟨x72, hx73, h⟩ := of_bind h
  refine RunsI.only [1, 2, 4, 5] [(1, .slice pA1 p1.length pc1), (2, .pointer (some ⟨b2, 0, none⟩)), (4, .pointer (some ⟨b7, 0, none⟩)), (5, .int .i64 0)] (by kernel_rfl) (by kernel_rfl) ?_
  refine charabancref29_Behind_11.l0_ok K M0 w0 pA0_0 pc0_0 pA0_3 pc0_3 pA1 pc1 p0_0 p0_1 p0_2 p0_3 p1 b2 b7 _ x72 ?_ K p0_0 p0_1 p0_2 p0_3 0 pA0_0 pc0_0 pA0_3 pc0_3 w6 hx73 (h8.pick [2, 3, 0, 1, 4] (by decide))
  · intro t76 t77 t78 t81 A74 c75 A79 c80 w83 hq87 h82
    (try rw [hq87] at h)
    dsimp only at h
    refine RunsI.go 1 [.c 18, .c 19] (by kernel_rfl) ?_
    refine RunsI.region (by kernel_rfl) ?_
    refine RegI.op (by kernel_rfl) (OpE.loadBox 18 0 31 b2 0 (.agg #[.slice A74 t76.length c75, .int .i64 t77, .int .i64 t78, .slice A79 t81.length c80]) h82 (by kernel_rfl) (by kernel_rfl) rfl (by kernel_rfl) ?_)
    refine RegI.op (by kernel_rfl) (OpE.storeBox 3 31 b7 0 (.agg #[.slice A74 t76.length c75, .int .i64 t77, .int .i64 t78, .slice A79 t81.length c80]) [.slice A74 t76.length c75, .int .i64 t77, .int .i64 t78, .slice A79 t81.length c80] h82 (by kernel_rfl) (by kernel_rfl) rfl (by kernel_rfl) (by kernel_rfl) (by kernel_rfl) ?_)
    intro w84 h85 hk86
    refine RegI.done (by kernel_rfl) ?_
    refine RunsI.toRet (by kernel_rfl) ?_
    refine RetI.valW [.cell 4 31] [.agg #[.slice A74 t76.length c75, .int .i64 t77, .int .i64 t78, .slice A79 t81.length c80]] (.agg #[.slice A74 t76.length c75, .int .i64 t77, .int .i64 t78, .slice A79 t81.length c80]) (by kernel_rfl) (ResAt.box 3 31 b7 0 h85 (by kernel_rfl) (by kernel_rfl) rfl (by kernel_rfl) rfl) (by kernel_rfl) ?_
    obtain rfl := Option.some.inj h
    exact ⟨A74, c75, A79, c80, rfl, h85.pick [1, 2] (by decide)⟩
end

/-! ### charabanc/charabanclaw29.store (function 12) -/
section
def charabanclaw29_store_12.post (M0 : Nat → Prop) (w0 : World) (r : (List Int) × Int × Int × (List (Int × Int))) : Ending → World → Prop := fun e w => ∃ (A1 : Option Addr) (c1 : Nat) (A4 : Option Addr) (c4 : Nat), e = .returned (.agg #[.slice A1 r.1.length c1, .int .i64 r.2.1, .int .i64 r.2.2.1, .slice A4 r.2.2.2.length c4]) ∧ Holds M0 w0 w [sl (Rp.int .u8) (.slice A1 r.1.length c1) r.1, own (Rp.pair (Rp.int .i64) (Rp.int .u8)) 81 (.slice A4 r.2.2.2.length c4) r.2.2.2]
def charabanclaw29_store_12.l0 (K : Nat) (p0_0 : List Int) (p0_1 : Int) (p0_2 : Int) (p0_3 : List (Int × Int)) : Nat → (List (Int × Int)) → Int → Option (List (Int × Int))
  | 0, _, _ => none
  | k + 1, t25, t26 => cond (decide (t26 < (p0_3.length : Int))) (cond (inR t26 p0_3.length) (cond (mayBe (t25.length + ([((rdD p0_3 t26).1, (rdD p0_3 t26).2)] : List (Int × Int)).length) 16) (charabanclaw29_store_12.l0 K p0_0 p0_1 p0_2 p0_3 k (t25 ++ ([((rdD p0_3 t26).1, (rdD p0_3 t26).2)] : List (Int × Int))) (IntKind.wrap .i64 (t26 + 1))) none) none) (some t25)
set_option maxRecDepth 100000 in
theorem charabanclaw29_store_12.l0_ok (K : Nat) (M0 : Nat → Prop) (w0 : World) (pA0_0 : Option Addr) (pc0_0 : Nat) (pA0_3 : Option Addr) (pc0_3 : Nat) (p0_0 : List Int) (p0_1 : Int) (p0_2 : Int) (p0_3 : List (Int × Int)) (b20 : Nat) (b21 : Nat) (b22 : Nat) (R : Ending → World → Prop) (x : (List (Int × Int))) (hk0 : ∀ (t78 : List (Int × Int)) (A76 : Option Addr) (c77 : Nat) (w1 : World), x = t78 → Holds M0 w0 w1 [box b21 31 [.slice none 0 0, .int .i64 0, .int .i64 0, .slice none 0 0], box b22 31 [.slice pA0_0 p0_0.length pc0_0, .int .i64 p0_1, .int .i64 p0_2, .slice A76 t78.length c77], sl (Rp.int .u8) (.slice pA0_0 p0_0.length pc0_0) p0_0, own (Rp.pair (Rp.int .i64) (Rp.int .u8)) 81 (.slice A76 t78.length c77) t78] → RunsI F12 [.c 19] [(2, .pointer (some ⟨b21, 0, none⟩)), (3, .pointer (some ⟨b22, 0, none⟩))] w1 R) :
    ∀ (k : Nat) (t25 : List (Int × Int)) (t26 : Int) (A23 : Option Addr) (c24 : Nat) (w : World), charabanclaw29_store_12.l0 K p0_0 p0_1 p0_2 p0_3 k t25 t26 = some x → Holds M0 w0 w [box b20 25 [.slice pA0_0 p0_0.length pc0_0, .int .i64 p0_1, .int .i64 p0_2, .slice pA0_3 p0_3.length pc0_3], sl (Rp.int .u8) (.slice pA0_0 p0_0.length pc0_0) p0_0, sl (Rp.pair (Rp.int .i64) (Rp.int .u8)) (.slice pA0_3 p0_3.length pc0_3) p0_3, box b21 31 [.slice none 0 0, .int .i64 0, .int .i64 0, .slice none 0 0], box b22 31 [.slice pA0_0 p0_0.length pc0_0, .int .i64 p0_1, .int .i64 p0_2, .slice A23 t25.length c24], own (Rp.pair (Rp.int .i64) (Rp.int .u8)) 81 (.slice A23 t25.length c24) t25] → RunsI F12 [.c 9, .lp 9, .blk 0, .c 19] [(1, .pointer (some ⟨b20, 0, none⟩)), (2, .pointer (some ⟨b21, 0, none⟩)), (3, .pointer (some ⟨b22, 0, none⟩)), (4, .int .i64 t26)] w R := by
  intro k
  induction k with
  | zero => intro t25 t26 A23 c24 w h hH; exact absurd h (by simp [charabanclaw29_store_12.l0])
  | succ k ih =>
    intro t25 t26 A23 c24 w h hH
    rw [charabanclaw29_store_12.l0.eq_2] at h
    refine RunsI.go 1 [.c 10, .c 15, .lp 9, .blk 0, .c 19] (by kernel_rfl) ?_
    refine RunsI.go 1 [.c 11, .c 12, .c 15, .lp 9, .blk 0, .c 19] (by kernel_rfl) ?_
    refine RunsI.region (by kernel_rfl) ?_
    refine RegI.pure 2 [1, 2, 3, 4, 12, 13] [(1, .pointer (some ⟨b20, 0, none⟩)), (2, .pointer (some ⟨b21, 0, none⟩)), (3, .pointer (some ⟨b22, 0, none⟩)), (4, .int .i64 t26), (12, .int .i64 t26), (13, .pointer (some ⟨b20, 3, none⟩))] (by kernel_rfl) ?_
    refine RegI.op (by kernel_rfl) (OpE.loadBox 14 0 23 b20 3 (.slice pA0_3 p0_3.length pc0_3) hH (by kernel_rfl) (by kernel_rfl) rfl (by kernel_rfl) ?_)
    refine RegI.pure 2 [1, 2, 3, 4, 16] [(1, .pointer (some ⟨b20, 0, none⟩)), (2, .pointer (some ⟨b21, 0, none⟩)), (3, .pointer (some ⟨b22, 0, none⟩)), (4, .int .i64 t26), (16, .bool (decide (t26 < (p0_3.length : Int))))] (by kernel_rfl) ?_
    refine RegI.done (by kernel_rfl) ?_
    rcases of_cond h with ⟨hc27, h⟩ | ⟨hc27, h⟩
    · skip
      refine RunsI.fix 16 true hc27 (by kernel_rfl) (by kernel_rfl) ?_
      refine RunsI.cond true 13 (by kernel_rfl) ?_
      refine RunsI.go 1 [.c 15, .lp 9, .blk 0, .c 19] (by kernel_rfl) ?_
      refine RunsI.go 2 [.c 17, .blk 1, .c 18, .lp 9, .blk 0, .c 19] (by kernel_rfl) ?_
      refine RunsI.any 19 (by kernel_rfl) (by kernel_rfl) (by kernel_rfl) (Kp (mines (pick [box b20 25 [.slice pA0_0 p0_0.length pc0_0, .int .i64 p0_1, .int .i64 p0_2, .slice pA0_3 p0_3.length pc0_3], sl (Rp.int .u8) (.slice pA0_0 p0_0.length pc0_0) p0_0, sl (Rp.pair (Rp.int .i64) (Rp.int .u8)) (.slice pA0_3 p0_3.length pc0_3) p0_3, box b21 31 [.slice none 0 0, .int .i64 0, .int .i64 0, .slice none 0 0], box b22 31 [.slice pA0_0 p0_0.length pc0_0, .int .i64 p0_1, .int .i64 p0_2, .slice A23 t25.length c24], own (Rp.pair (Rp.int .i64) (Rp.int .u8)) 81 (.slice A23 t25.length c24) t25] [5])) (World.drew w)) ?_
      have h29 := hH.drew
      generalize World.drew w = w28 at h29 ⊢
      have hS30 := Kp.refl (mines (pick [box b20 25 [.slice pA0_0 p0_0.length pc0_0, .int .i64 p0_1, .int .i64 p0_2, .slice pA0_3 p0_3.length pc0_3], sl (Rp.int .u8) (.slice pA0_0 p0_0.length pc0_0) p0_0, sl (Rp.pair (Rp.int .i64) (Rp.int .u8)) (.slice pA0_3 p0_3.length pc0_3) p0_3, box b21 31 [.slice none 0 0, .int .i64 0, .int .i64 0, .slice none 0 0], box b22 31 [.slice pA0_0 p0_0.length pc0_0, .int .i64 p0_1, .int .i64 p0_2, .slice A23 t25.length c24], own (Rp.pair (Rp.int .i64) (Rp.int .u8)) 81 (.slice A23 t25.length c24) t25] [5])) w28
      refine AnyE.pure 0 19 (.pointer (some ⟨b22, 3, none⟩)) (by kernel_rfl) hS30 (fun _ => by kernel_rfl) ?_
      refine AnyE.loadBox 1 20 4 29 b22 3 (.slice A23 t25.length c24) [5] h29 rfl (by kernel_rfl) hS30 rfl rfl (by kernel_rfl) (by kernel_rfl) ?_
      refine AnyE.pure 2 21 (.pointer (some ⟨b20, 3, none⟩)) (by kernel_rfl) hS30 (fun _ => by kernel_rfl) ?_
      refine AnyE.loadBox 3 22 0 23 b20 3 (.slice pA0_3 p0_3.length pc0_3) [5] h29 rfl (by kernel_rfl) hS30 rfl rfl (by kernel_rfl) (by kernel_rfl) ?_
      refine AnyE.pure 4 23 (.int .i64 t26) (by kernel_rfl) hS30 (fun _ => by kernel_rfl) ?_
      obtain ⟨hc32, h⟩ := of_cond0 h
      refine AnyE.idxSl 5 24 2 23 t26 h29 (by kernel_rfl) hS30 rfl (by kernel_rfl) (by kernel_rfl) hc32 ?_
      intro b33 o34 cs35 hk36 h37
      obtain ⟨_, _, rfl, rfl, rfl⟩ := hk36
      refine AnyE.pure 6 25 (.pointer (some ⟨b33, o34, none⟩)) (by kernel_rfl) hS30 (fun _ => by kernel_rfl) ?_
      refine AnyE.loadCel 7 26 6 3 b33 o34 0 (.int .i64 ((rdD p0_3 t26).1)) [5] h37 rfl (by kernel_rfl) hS30 rfl rfl (by kernel_rfl) (by kernel_rfl) ?_
      refine AnyE.pure 8 27 (.pointer (some ⟨b20, 3, none⟩)) (by kernel_rfl) hS30 (fun _ => by kernel_rfl) ?_
      refine AnyE.loadBox 9 28 0 23 b20 3 (.slice pA0_3 p0_3.length pc0_3) [5] h37 rfl (by kernel_rfl) hS30 rfl rfl (by kernel_rfl) (by kernel_rfl) ?_
      refine AnyE.pure 10 29 (.int .i64 t26) (by kernel_rfl) hS30 (fun _ => by kernel_rfl) ?_
      refine AnyE.idxSl 11 30 2 23 t26 h37 (by kernel_rfl) hS30 rfl (by kernel_rfl) (by kernel_rfl) hc32 ?_
      intro b38 o39 cs40 hk41 h42
      obtain ⟨_, _, rfl, rfl, rfl⟩ := hk41
      refine AnyE.pure 12 31 (.pointer (some ⟨b38, o39 + 1, none⟩)) (by kernel_rfl) hS30 (fun _ => by kernel_rfl) ?_
      refine AnyE.loadCel 13 32 7 5 b38 o39 1 (.int .u8 ((rdD p0_3 t26).2)) [5] h42 rfl (by kernel_rfl) hS30 rfl rfl (by kernel_rfl) (by kernel_rfl) ?_
      refine AnyE.pure 14 33 (.agg #[.int .i64 ((rdD p0_3 t26).1), .int .u8 ((rdD p0_3 t26).2)]) (by kernel_rfl) hS30 (fun _ => by kernel_rfl) ?_
      refine AnyE.one 15 (by kernel_rfl) (fun w43 hu44 => ?_)
      have h45 := h42.call hu44
      have hS46 := hS30.up hu44
      refine OpE.lit 34 81 [.int .i64 ((rdD p0_3 t26).1), .int .u8 ((rdD p0_3 t26).2)] 1 h45 (by kernel_rfl) (by kernel_rfl) ?_
      intro w47 b48 h49 hb50 hn51
      have hn52 := Nat.le_trans hS46.1 hn51
      have hS53 := hS46.up hb50
      refine ⟨hS53, ?_⟩
      refine AnyE.one 16 (by kernel_rfl) (fun w54 hu55 => ?_)
      have h56 := h49.call hu55
      have hS57 := hS53.up hu55
      obtain ⟨hc58, h⟩ := of_cond0 h
      refine OpE.appendBox 35 5 8 29 81 16 ([((rdD p0_3 t26).1, (rdD p0_3 t26).2)] : List (Int × Int)) 0 h56 (by kernel_rfl) (by kernel_rfl) (by kernel_rfl) rfl rfl rfl (⟨[_, _], _, rfl, ⟨[_], [_], rfl, rfl, rfl⟩, rfl⟩) hc58 ?_
      intro w59 A60 c61 h62 hk63
      have hS64 := hS57.trans hk63 (Kp.turned h42 [5] rfl 5 rfl rfl)
      refine ⟨hS64, ?_⟩
      refine AnyE.pure 17 36 (.pointer (some ⟨b22, 3, none⟩)) (by kernel_rfl) hS64 (fun _ => by kernel_rfl) ?_
      refine AnyE.last 18 (by kernel_rfl) (by kernel_rfl) (fun w65 hu66 => ?_)
      have h67 := h62.call hu66
      have hS68 := hS64.up hu66
      refine OpE.storeBox 4 29 b22 3 (.slice A60 ((t25 ++ ([((rdD p0_3 t26).1, (rdD p0_3 t26).2)] : List (Int × Int))).length) c61) [.slice pA0_0 p0_0.length pc0_0, .int .i64 p0_1, .int .i64 p0_2, .slice A60 ((t25 ++ ([((rdD p0_3 t26).1, (rdD p0_3 t26).2)] : List (Int × Int))).length) c61] h67 (by kernel_rfl) (by kernel_rfl) rfl (by kernel_rfl) (by kernel_rfl) (by kernel_rfl) ?_
      intro w69 h70 hk71
      refine AnyE.done (by kernel_rfl) (fun w73 hu74 => ?_)
      have h75 := h70.call hu74
      refine RunsI.only [1, 2, 3, 4] [(1, .pointer (some ⟨b20, 0, none⟩)), (2, .pointer (some ⟨b21, 0, none⟩)), (3, .pointer (some ⟨b22, 0, none⟩)), (4, .int .i64 t26)] (by kernel_rfl) (by kernel_rfl) ?_
      refine RunsI.go 1 [.c 18, .lp 9, .blk 0, .c 19] (by kernel_rfl) ?_
      refine RunsI.region (by kernel_rfl) ?_
      refine RegI.pure 3 [1, 2, 3, 4] [(1, .pointer (some ⟨b20, 0, none⟩)), (2, .pointer (some ⟨b21, 0, none⟩)), (3, .pointer (some ⟨b22, 0, none⟩)), (4, .int .i64 (IntKind.wrap .i64 (t26 + 1)))] (by kernel_rfl) ?_
      refine RegI.done (by kernel_rfl) ?_
      refine RunsI.go 1 [.c 9, .lp 9, .blk 0, .c 19] (by kernel_rfl) ?_
      refine RunsI.only [1, 2, 3, 4] [(1, .pointer (some ⟨b20, 0, none⟩)), (2, .pointer (some ⟨b21, 0, none⟩)), (3, .pointer (some ⟨b22, 0, none⟩)), (4, .int .i64 (IntKind.wrap .i64 (t26 + 1)))] (by kernel_rfl) (by kernel_rfl) ?_
      exact ih (t25 ++ ([((rdD p0_3 t26).1, (rdD p0_3 t26).2)] : List (Int × Int))) (IntKind.wrap .i64 (t26 + 1)) A60 c61 w73 h (h75.pick [0, 1, 2, 3, 4, 5] (by decide))
    · skip
      refine RunsI.fix 16 false hc27 (by kernel_rfl) (by kernel_rfl) ?_
      refine RunsI.cond false 14 (by kernel_rfl) ?_
      refine RunsI.go 1 [.c 19] (by kernel_rfl) ?_
      refine RunsI.only [2, 3] [(2, .pointer (some ⟨b21, 0, none⟩)), (3, .pointer (some ⟨b22, 0, none⟩))] (by kernel_rfl) (by kernel_rfl) ?_
      exact hk0 t25 A23 c24 w (Option.some.inj h).symm (hH.pick [3, 4, 1, 5] (by decide))
def charabanclaw29_store_12.f (K : Nat) (p0_0 : List Int) (p0_1 : Int) (p0_2 : Int) (p0_3 : List (Int × Int)) : Option ((List Int) × Int × Int × (List (Int × Int))) := (charabanclaw29_store_12.l0 K p0_0 p0_1 p0_2 p0_3 K ([] : List (Int × Int)) 0).bind (fun t83 => some (p0_0, p0_1, p0_2, t83))
set_option maxRecDepth 100000 in
theorem charabanclaw29_store_12_ok (K : Nat) (M0 : Nat → Prop) (w0 : World) (pA0_0 : Option Addr) (pc0_0 : Nat) (pA0_3 : Option Addr) (pc0_3 : Nat) (p0_0 : List Int) (p0_1 : Int) (p0_2 : Int) (p0_3 : List (Int × Int)) (ho : ∀ b, M0 b → b < w0.heap.size) (hs0_0 : Sl (Rp.int .u8) w0 M0 (.slice pA0_0 p0_0.length pc0_0) p0_0) (hs0_3 : Sl (Rp.pair (Rp.int .i64) (Rp.int .u8)) w0 M0 (.slice pA0_3 p0_3.length pc0_3) p0_3) {r : (List Int) × Int × Int × (List (Int × Int))} (h : charabanclaw29_store_12.f K p0_0 p0_1 p0_2 p0_3 = some r) :
    Calls Tryd.prog 12 #[.agg #[.slice pA0_0 p0_0.length pc0_0, .int .i64 p0_1, .int .i64 p0_2, .slice pA0_3 p0_3.length pc0_3]] w0 (charabanclaw29_store_12.post M0 w0 r) := by
  unfold charabanclaw29_store_12.f at h
  have h0 : Holds M0 w0 w0 [] := Holds.start ho
  have h00_0 := h0.addSl (Rp.int .u8) (.slice pA0_0 p0_0.length pc0_0) p0_0 (hs0_0.mono (fun _ _ hm => hm.elim id (fun hm => absurd hm (by simp [mines, sl]))))
  have h00_3 := h00_0.addSl (Rp.pair (Rp.int .i64) (Rp.int .u8)) (.slice pA0_3 p0_3.length pc0_3) p0_3 (hs0_3.mono (fun _ _ hm => hm.elim id (fun hm => absurd hm (by simp [mines, sl]))))
  have h0 : Holds M0 w0 w0 [sl (Rp.int .u8) (.slice pA0_0 p0_0.length pc0_0) p0_0, sl (Rp.pair (Rp.int .i64) (Rp.int .u8)) (.slice pA0_3 p0_3.length pc0_3) p0_3] := h00_3
  refine calls_of F12 rfl [.agg #[.slice pA0_0 p0_0.length pc0_0, .int .i64 p0_1, .int .i64 p0_2, .slice pA0_3 p0_3.length pc0_3]] (by kernel_rfl) ?_
  refine RunsI.go 1 [.c 1, .c 2] (by kernel_rfl) ?_
  refine RunsI.region (by kernel_rfl) ?_
  refine RegI.op (by kernel_rfl) (OpE.box 1 25 [.slice pA0_0 p0_0.length pc0_0, .int .i64 p0_1, .int .i64 p0_2, .slice pA0_3 p0_3.length pc0_3] h0 (by kernel_rfl) (by kernel_rfl) ?_)
  intro w1 b2 h3 hb4 hn5
  refine RegI.op (by kernel_rfl) (OpE.box 2 31 [.slice none 0 0, .int .i64 0, .int .i64 0, .slice none 0 0] h3 (by kernel_rfl) (by kernel_rfl) ?_)
  intro w6 b7 h8 hb9 hn10
  refine RegI.done (by kernel_rfl) ?_
  refine RunsI.go 1 [.c 3, .c 4] (by kernel_rfl) ?_
  refine RunsI.region (by kernel_rfl) ?_
  refine RegI.pure 1 [1, 2, 5] [(1, .pointer (some ⟨b2, 0, none⟩)), (2, .pointer (some ⟨b7, 0, none⟩)), (5, .pointer (some ⟨b2, 0, none⟩))] (by kernel_rfl) ?_
  refine RegI.op (by kernel_rfl) (OpE.loadBox 6 2 22 b2 0 (.slice pA0_0 p0_0.length pc0_0) h8 (by kernel_rfl) (by kernel_rfl) rfl (by kernel_rfl) ?_)
  refine RegI.pure 1 [1, 2, 6, 7] [(1, .pointer (some ⟨b2, 0, none⟩)), (2, .pointer (some ⟨b7, 0, none⟩)), (6, .slice pA0_0 p0_0.length pc0_0), (7, .pointer (some ⟨b2, 1, none⟩))] (by kernel_rfl) ?_
  refine RegI.op (by kernel_rfl) (OpE.loadBox 8 2 3 b2 1 (.int .i64 p0_1) h8 (by kernel_rfl) (by kernel_rfl) rfl (by kernel_rfl) ?_)
  refine RegI.pure 1 [1, 2, 6, 8, 9] [(1, .pointer (some ⟨b2, 0, none⟩)), (2, .pointer (some ⟨b7, 0, none⟩)), (6, .slice pA0_0 p0_0.length pc0_0), (8, .int .i64 p0_1), (9, .pointer (some ⟨b2, 2, none⟩))] (by kernel_rfl) ?_
  refine RegI.op (by kernel_rfl) (OpE.loadBox 10 2 3 b2 2 (.int .i64 p0_2) h8 (by kernel_rfl) (by kernel_rfl) rfl (by kernel_rfl) ?_)
  refine RegI.pure 1 [1, 2, 11] [(1, .pointer (some ⟨b2, 0, none⟩)), (2, .pointer (some ⟨b7, 0, none⟩)), (11, .agg #[.slice pA0_0 p0_0.length pc0_0, .int .i64 p0_1, .int .i64 p0_2, .slice none 0 0])] (by kernel_rfl) ?_
  refine RegI.op (by kernel_rfl) (OpE.box 3 31 [.slice none 0 0, .int .i64 0, .int .i64 0, .slice none 0 0] h8 (by kernel_rfl) (by kernel_rfl) ?_)
  intro w11 b12 h13 hb14 hn15
  refine RegI.op (by kernel_rfl) (OpE.storeBox 4 31 b12 0 (.agg #[.slice pA0_0 p0_0.length pc0_0, .int .i64 p0_1, .int .i64 p0_2, .slice none 0 0]) [.slice pA0_0 p0_0.length pc0_0, .int .i64 p0_1, .int .i64 p0_2, .slice none 0 0] h13 (by kernel_rfl) (by kernel_rfl) rfl (by kernel_rfl) (by kernel_rfl) (by kernel_rfl) ?_)
  intro w16 h17 hk18
  refine RegI.done (by kernel_rfl) ?_
  refine RunsI.go 2 [.c 6, .c 7, .c 19] (by kernel_rfl) ?_
  refine RunsI.region (by kernel_rfl) ?_
  refine RegI.pure 1 [1, 2, 3, 4] [(1, .pointer (some ⟨b2, 0, none⟩)), (2, .pointer (some ⟨b7, 0, none⟩)), (3, .pointer (some ⟨b12, 0, none⟩)), (4, .int .i64 0)] (by kernel_rfl) ?_
  refine RegI.done (by kernel_rfl) ?_
  refine RunsI.go 2 [.c 9, .lp 9, .blk 0, .c 19] (by kernel_rfl) ?_
  obtain ⟨x79, hx80, h⟩ := of_bind h
  have h19 := h17.addOwnNil (Rp.pair (Rp.int .i64) (Rp.int .u8)) 81
  refine RunsI.only [1, 2, 3, 4] [(1, .pointer (some ⟨b2, 0, none⟩)), (2, .pointer (some ⟨b7, 0, none⟩)), (3, .pointer (some ⟨b12, 0, none⟩)), (4, .int .i64 0)] (by kernel_rfl) (by kernel_rfl) ?_
  refine charabanclaw29_store_12.l0_ok K M0 w0 pA0_0 pc0_0 pA0_3 pc0_3 p0_0 p0_1 p0_2 p0_3 b2 b7 b12 _ x79 ?_ K ([] : List (Int × Int)) 0 none 0 w16 hx80 (h19.pick [2, 0, 1, 3, 4, 5] (by decide))
  · intro t83 A81 c82 w85 hq89 h84
    (try rw [hq89] at h)
    refine RunsI.go 1 [.c 20, .c 21] (by kernel_rfl) ?_
    refine RunsI.region (by kernel_rfl) ?_
    refine RegI.op (by kernel_rfl) (OpE.loadBox 37 1 31 b12 0 (.agg #[.slice pA0_0 p0_0.length pc0_0, .int .i64 p0_1, .int .i64 p0_2, .slice A81 t83.length c82]) h84 (by kernel_rfl) (by kernel_rfl) rfl (by kernel_rfl) ?_)
    refine RegI.op (by kernel_rfl) (OpE.storeBox 0 31 b7 0 (.agg #[.slice pA0_0 p0_0.length pc0_0, .int .i64 p0_1, .int .i64 p0_2, .slice A81 t83.length c82]) [.slice pA0_0 p0_0.length pc0_0, .int .i64 p0_1, .int .i64 p0_2, .slice A81 t83.length c82] h84 (by kernel_rfl) (by kernel_rfl) rfl (by kernel_rfl) (by kernel_rfl) (by kernel_rfl) ?_)
    intro w86 h87 hk88
    refine RegI.done (by kernel_rfl) ?_
    refine RunsI.toRet (by kernel_rfl) ?_
    refine RetI.valW [.cell 2 31] [.agg #[.slice pA0_0 p0_0.length pc0_0, .int .i64 p0_1, .int .i64 p0_2, .slice A81 t83.length c82]] (.agg #[.slice pA0_0 p0_0.length pc0_0, .int .i64 p0_1, .int .i64 p0_2, .slice A81 t83.length c82]) (by kernel_rfl) (ResAt.box 0 31 b7 0 h87 (by kernel_rfl) (by kernel_rfl) rfl (by kernel_rfl) rfl) (by kernel_rfl) ?_
    obtain rfl := Option.some.inj h
    exact ⟨pA0_0, pc0_0, A81, c82, rfl, h87.pick [2, 3] (by decide)⟩
end

/-! ### charabanc/charabancref19.Read (function 46) -/
section
def charabancref19_Read_46.post (M0 : Nat → Prop) (w0 : World) (r : Int) : Ending → World → Prop := fun e w => e = .returned (.int .u8 r) ∧ Below w0.heap.size w0 w
def charabancref19_Read_46.l0 (K : Nat) (p0_0 : List Int) (p0_1 : Int) (p0_2 : Int) (p0_3 : List (Int × Int)) (p1 : Int) (t20 : Int) : Nat → Int → Option (Lp Int Unit)
  | 0, _ => none
  | k + 1, t21 => cond (decide (t21 < (p0_3.length : Int))) (cond (inR t21 p0_3.length) (cond (((rdD p0_3 t21).1) == t20) (some (Lp.ret ((rdD p0_3 t21).2))) (charabancref19_Read_46.l0 K p0_0 p0_1 p0_2 p0_3 p1 t20 k (IntKind.wrap .i64 (t21 + 1)))) none) (some (Lp.go ()))
set_option maxRecDepth 100000 in
theorem charabancref19_Read_46.l0_ok (K : Nat) (M0 : Nat → Prop) (w0 : World) (pA0_0 : Option Addr) (pc0_0 : Nat) (pA0_3 : Option Addr) (pc0_3 : Nat) (p0_0 : List Int) (p0_1 : Int) (p0_2 : Int) (p0_3 : List (Int × Int)) (p1 : Int) (t20 : Int) (b19 : Nat) (R : Ending → World → Prop) (x : Lp Int Unit) (hk0 : ∀ (w1 : World), x = Lp.go () → Holds M0 w0 w1 [] → RunsI F46 [.c 33] [] w1 R) (hk1 : ∀ (t35 : Int) (w1 : World), x = Lp.ret t35 → Holds M0 w0 w1 [] → R (.returned (.int .u8 t35)) w1) :
    ∀ (k : Nat) (t21 : Int) (w : World), charabancref19_Read_46.l0 K p0_0 p0_1 p0_2 p0_3 p1 t20 k t21 = some x → Holds M0 w0 w [box b19 31 [.slice pA0_0 p0_0.length pc0_0, .int .i64 p0_1, .int .i64 p0_2, .slice pA0_3 p0_3.length pc0_3], sl (Rp.int .u8) (.slice pA0_0 p0_0.length pc0_0) p0_0, sl (Rp.pair (Rp.int .i64) (Rp.int .u8)) (.slice pA0_3 p0_3.length pc0_3) p0_3] → RunsI F46 [.c 17, .lp 17, .blk 0, .c 33] [(2, .pointer (some ⟨b19, 0, none⟩)), (5, .int .i64 t20), (7, .int .i64 t21)] w R := by
  intro k
  induction k with
  | zero => intro t21 w h hH; exact absurd h (by simp [charabancref19_Read_46.l0])
  | succ k ih =>
    intro t21 w h hH
    rw [charabancref19_Read_46.l0.eq_2] at h
    refine RunsI.go 1 [.c 18, .c 23, .lp 17, .blk 0, .c 33] (by kernel_rfl) ?_
    refine RunsI.go 1 [.c 19, .c 20, .c 23, .lp 17, .blk 0, .c 33] (by kernel_rfl) ?_
    refine RunsI.region (by kernel_rfl) ?_
    refine RegI.pure 2 [2, 5, 7, 21, 22] [(2, .pointer (some ⟨b19, 0, none⟩)), (5, .int .i64 t20), (7, .int .i64 t21), (21, .int .i64 t21), (22, .pointer (some ⟨b19, 3, none⟩))] (by kernel_rfl) ?_
    refine RegI.op (by kernel_rfl) (OpE.loadBox 23 0 29 b19 3 (.slice pA0_3 p0_3.length pc0_3) hH (by kernel_rfl) (by kernel_rfl) rfl (by kernel_rfl) ?_)
    refine RegI.pure 2 [2, 5, 7, 25] [(2, .pointer (some ⟨b19, 0, none⟩)), (5, .int .i64 t20), (7, .int .i64 t21), (25, .bool (decide (t21 < (p0_3.length : Int))))] (by kernel_rfl) ?_
    refine RegI.done (by kernel_rfl) ?_
    rcases of_cond h with ⟨hc22, h⟩ | ⟨hc22, h⟩
    · skip
      refine RunsI.fix 25 true hc22 (by kernel_rfl) (by kernel_rfl) ?_
      refine RunsI.cond true 21 (by kernel_rfl) ?_
      refine RunsI.go 1 [.c 23, .lp 17, .blk 0, .c 33] (by kernel_rfl) ?_
      refine RunsI.go 3 [.c 26, .c 27, .blk 1, .c 32, .lp 17, .blk 0, .c 33] (by kernel_rfl) ?_
      refine RunsI.region (by kernel_rfl) ?_
      refine RegI.pure 1 [2, 5, 7, 28] [(2, .pointer (some ⟨b19, 0, none⟩)), (5, .int .i64 t20), (7, .int .i64 t21), (28, .pointer (some ⟨b19, 3, none⟩))] (by kernel_rfl) ?_
      refine RegI.op (by kernel_rfl) (OpE.loadBox 29 0 29 b19 3 (.slice pA0_3 p0_3.length pc0_3) hH (by kernel_rfl) (by kernel_rfl) rfl (by kernel_rfl) ?_)
      refine RegI.pure 1 [2, 5, 7, 29, 30] [(2, .pointer (some ⟨b19, 0, none⟩)), (5, .int .i64 t20), (7, .int .i64 t21), (29, .slice pA0_3 p0_3.length pc0_3), (30, .int .i64 t21)] (by kernel_rfl) ?_
      obtain ⟨hc23, h⟩ := of_cond0 h
      refine RegI.op (by kernel_rfl) (OpE.idxSl 31 2 29 t21 hH (by kernel_rfl) rfl (by kernel_rfl) (by kernel_rfl) hc23 ?_)
      intro b24 o25 cs26 hk27 h28
      obtain ⟨_, _, rfl, rfl, rfl⟩ := hk27
      refine RegI.pure 1 [2, 5, 7, 32] [(2, .pointer (some ⟨b19, 0, none⟩)), (5, .int .i64 t20), (7, .int .i64 t21), (32, .pointer (some ⟨b24, o25, none⟩))] (by kernel_rfl) ?_
      refine RegI.op (by kernel_rfl) (OpE.loadCel 33 3 3 b24 o25 0 (.int .i64 ((rdD p0_3 t21).1)) h28 (by kernel_rfl) (by kernel_rfl) rfl (by kernel_rfl) ?_)
      refine RegI.pure 2 [2, 5, 7, 35] [(2, .pointer (some ⟨b19, 0, none⟩)), (5, .int .i64 t20), (7, .int .i64 t21), (35, .bool (((rdD p0_3 t21).1) == t20))] (by kernel_rfl) ?_
      refine RegI.done (by kernel_rfl) ?_
      rcases of_cond h with ⟨hc29, h⟩ | ⟨hc29, h⟩
      · skip
        refine RunsI.fix 35 true hc29 (by kernel_rfl) (by kernel_rfl) ?_
        refine RunsI.cond true 28 (by kernel_rfl) ?_
        refine RunsI.go 1 [.c 29, .c 30, .blk 1, .c 32, .lp 17, .blk 0, .c 33] (by kernel_rfl) ?_
        refine RunsI.region (by kernel_rfl) ?_
        refine RegI.pure 1 [7, 36] [(7, .int .i64 t21), (36, .pointer (some ⟨b19, 3, none⟩))] (by kernel_rfl) ?_
        refine RegI.op (by kernel_rfl) (OpE.loadBox 37 0 29 b19 3 (.slice pA0_3 p0_3.length pc0_3) h28 (by kernel_rfl) (by kernel_rfl) rfl (by kernel_rfl) ?_)
        refine RegI.pure 1 [37, 38] [(37, .slice pA0_3 p0_3.length pc0_3), (38, .int .i64 t21)] (by kernel_rfl) ?_
        refine RegI.op (by kernel_rfl) (OpE.idxSl 39 2 29 t21 h28 (by kernel_rfl) rfl (by kernel_rfl) (by kernel_rfl) hc23 ?_)
        intro b30 o31 cs32 hk33 h34
        obtain ⟨_, _, rfl, rfl, rfl⟩ := hk33
        refine RegI.pure 1 [40] [(40, .pointer (some ⟨b30, o31 + 1, none⟩))] (by kernel_rfl) ?_
        refine RegI.op (by kernel_rfl) (OpE.loadCel 41 4 5 b30 o31 1 (.int .u8 ((rdD p0_3 t21).2)) h34 (by kernel_rfl) (by kernel_rfl) rfl (by kernel_rfl) ?_)
        refine RegI.pure 1 [4] [(4, .int .u8 ((rdD p0_3 t21).2))] (by kernel_rfl) ?_
        refine RegI.done (by kernel_rfl) ?_
        refine RunsI.ret (.int .u8 ((rdD p0_3 t21).2)) (by kernel_rfl) (by kernel_rfl) ?_
        exact hk1 ((rdD p0_3 t21).2) w (Option.some.inj h).symm (h34.pick [] (by decide))
      · skip
        refine RunsI.fix 35 false hc29 (by kernel_rfl) (by kernel_rfl) ?_
        refine RunsI.cond false 31 (by kernel_rfl) ?_
        refine RunsI.go 1 [.blk 1, .c 32, .lp 17, .blk 0, .c 33] (by kernel_rfl) ?_
        refine RunsI.go 1 [.c 32, .lp 17, .blk 0, .c 33] (by kernel_rfl) ?_
        refine RunsI.region (by kernel_rfl) ?_
        refine RegI.pure 3 [2, 5, 7] [(2, .pointer (some ⟨b19, 0, none⟩)), (5, .int .i64 t20), (7, .int .i64 (IntKind.wrap .i64 (t21 + 1)))] (by kernel_rfl) ?_
        refine RegI.done (by kernel_rfl) ?_
        refine RunsI.go 1 [.c 17, .lp 17, .blk 0, .c 33] (by kernel_rfl) ?_
        refine RunsI.only [2, 5, 7] [(2, .pointer (some ⟨b19, 0, none⟩)), (5, .int .i64 t20), (7, .int .i64 (IntKind.wrap .i64 (t21 + 1)))] (by kernel_rfl) (by kernel_rfl) ?_
        exact ih (IntKind.wrap .i64 (t21 + 1)) w h (h28.pick [0, 1, 2] (by decide))
    · skip
      refine RunsI.fix 25 false hc22 (by kernel_rfl) (by kernel_rfl) ?_
      refine RunsI.cond false 22 (by kernel_rfl) ?_
      refine RunsI.go 1 [.c 33] (by kernel_rfl) ?_
      refine RunsI.only [] [] (by kernel_rfl) (by kernel_rfl) ?_
      exact hk0 w (Option.some.inj h).symm (hH.pick [] (by decide))
def charabancref19_Read_46.f (K : Nat) (p0_0 : List Int) (p0_1 : Int) (p0_2 : Int) (p0_3 : List (Int × Int)) (p1 : Int) : Option Int := (charabancref19_Where_84.f K p0_0 p0_1 p0_2 p0_3 p1).bind fun yt10 => cond (!yt10.2) (cond (inR p1 p0_0.length) (some (rdD p0_0 p1)) none) ((charabancref19_Read_46.l0 K p0_0 p0_1 p0_2 p0_3 p1 yt10.1 K 0).bind (fun x36 => Lp.elim x36 (fun t40 => some t40) (fun _ => some 0)))
set_option maxRecDepth 100000 in
theorem charabancref19_Read_46_ok (K : Nat) (M0 : Nat → Prop) (w0 : World) (pA0_0 : Option Addr) (pc0_0 : Nat) (pA0_3 : Option Addr) (pc0_3 : Nat) (p0_0 : List Int) (p0_1 : Int) (p0_2 : Int) (p0_3 : List (Int × Int)) (p1 : Int) (ho : ∀ b, M0 b → b < w0.heap.size) (hs0_0 : Sl (Rp.int .u8) w0 M0 (.slice pA0_0 p0_0.length pc0_0) p0_0) (hs0_3 : Sl (Rp.pair (Rp.int .i64) (Rp.int .u8)) w0 M0 (.slice pA0_3 p0_3.length pc0_3) p0_3) {r : Int} (h : charabancref19_Read_46.f K p0_0 p0_1 p0_2 p0_3 p1 = some r) :
    Calls Tryd.prog 46 #[.agg #[.slice pA0_0 p0_0.length pc0_0, .int .i64 p0_1, .int .i64 p0_2, .slice pA0_3 p0_3.length pc0_3], .int .u16 p1] w0 (charabancref19_Read_46.post M0 w0 r) := by
  unfold charabancref19_Read_46.f at h
  have h0 : Holds M0 w0 w0 [] := Holds.start ho
  have h00_0 := h0.addSl (Rp.int .u8) (.slice pA0_0 p0_0.length pc0_0) p0_0 (hs0_0.mono (fun _ _ hm => hm.elim id (fun hm => absurd hm (by simp [mines, sl]))))
  have h00_3 := h00_0.addSl (Rp.pair (Rp.int .i64) (Rp.int .u8)) (.slice pA0_3 p0_3.length pc0_3) p0_3 (hs0_3.mono (fun _ _ hm => hm.elim id (fun hm => absurd hm (by simp [mines, sl]))))
  have h0 : Holds M0 w0 w0 [sl (Rp.int .u8) (.slice pA0_0 p0_0.length pc0_0) p0_0, sl (Rp.pair (Rp.int .i64) (Rp.int .u8)) (.slice pA0_3 p0_3.length pc0_3) p0_3] := h00_3
  refine calls_of F46 rfl [.agg #[.slice pA0_0 p0_0.length pc0_0, .int .i64 p0_1, .int .i64 p0_2, .slice pA0_3 p0_3.length pc0_3], .int .u16 p1] (by kernel_rfl) ?_
  refine RunsI.go 1 [.c 1, .c 2] (by kernel_rfl) ?_
  refine RunsI.region (by kernel_rfl) ?_
  refine RegI.op (by kernel_rfl) (OpE.box 2 31 [.slice pA0_0 p0_0.length pc0_0, .int .i64 p0_1, .int .i64 p0_2, .slice pA0_3 p0_3.length pc0_3] h0 (by kernel_rfl) (by kernel_rfl) ?_)
  intro w1 b2 h3 hb4 hn5
  refine RegI.pure 1 [1, 2] [(1, .int .u16 p1), (2, .pointer (some ⟨b2, 0, none⟩))] (by kernel_rfl) ?_
  refine RegI.done (by kernel_rfl) ?_
  refine RunsI.go 1 [.c 3, .c 4] (by kernel_rfl) ?_
  refine RunsI.region (by kernel_rfl) ?_
  refine RegI.op (by kernel_rfl) (OpE.loadBox 9 2 31 b2 0 (.agg #[.slice pA0_0 p0_0.length pc0_0, .int .i64 p0_1, .int .i64 p0_2, .slice pA0_3 p0_3.length pc0_3]) h3 (by kernel_rfl) (by kernel_rfl) rfl (by kernel_rfl) ?_)
  refine RegI.pure 1 [1, 2, 9, 10] [(1, .int .u16 p1), (2, .pointer (some ⟨b2, 0, none⟩)), (9, .agg #[.slice pA0_0 p0_0.length pc0_0, .int .i64 p0_1, .int .i64 p0_2, .slice pA0_3 p0_3.length pc0_3]), (10, .int .u16 p1)] (by kernel_rfl) ?_
  obtain ⟨⟨t10, t11⟩, hg9, h⟩ := of_bind h
  dsimp only at h
  refine RegI.op (by kernel_rfl) (OpE.call 11 (by kernel_rfl) 84 #[.agg #[.slice pA0_0 p0_0.length pc0_0, .int .i64 p0_1, .int .i64 p0_2, .slice pA0_3 p0_3.length pc0_3], .int .u16 p1] (by kernel_rfl) ((charabancref19_Where_84_ok K _ w1  pA0_0 pc0_0 pA0_3 pc0_3 p0_0 p0_1 p0_2 p0_3 p1 h3.old' (h3.get 0 rfl) (h3.get 1 rfl) hg9).mono ?_))
  rintro _ w6 ⟨rfl, hb7⟩
  refine ⟨_, rfl, ?_⟩
  have h8 := h3.call hb7
  refine RegI.pure 5 [1, 2, 5, 6] [(1, .int .u16 p1), (2, .pointer (some ⟨b2, 0, none⟩)), (5, .int .i64 t10), (6, .bool t11)] (by kernel_rfl) ?_
  refine RegI.done (by kernel_rfl) ?_
  refine RunsI.go 2 [.c 6, .c 7, .c 12] (by kernel_rfl) ?_
  refine RunsI.region (by kernel_rfl) ?_
  refine RegI.pure 2 [1, 2, 5, 15] [(1, .int .u16 p1), (2, .pointer (some ⟨b2, 0, none⟩)), (5, .int .i64 t10), (15, .bool (!t11))] (by kernel_rfl) ?_
  refine RegI.done (by kernel_rfl) ?_
  rcases of_cond h with ⟨hc12, h⟩ | ⟨hc12, h⟩
  · skip
    refine RunsI.fix 15 true hc12 (by kernel_rfl) (by kernel_rfl) ?_
    refine RunsI.cond true 8 (by kernel_rfl) ?_
    refine RunsI.go 1 [.c 9, .c 10, .c 12] (by kernel_rfl) ?_
    refine RunsI.region (by kernel_rfl) ?_
    refine RegI.pure 1 [1, 16] [(1, .int .u16 p1), (16, .pointer (some ⟨b2, 0, none⟩))] (by kernel_rfl) ?_
    refine RegI.op (by kernel_rfl) (OpE.loadBox 17 2 22 b2 0 (.slice pA0_0 p0_0.length pc0_0) h8 (by kernel_rfl) (by kernel_rfl) rfl (by kernel_rfl) ?_)
    refine RegI.pure 1 [17, 18] [(17, .slice pA0_0 p0_0.length pc0_0), (18, .int .u16 p1)] (by kernel_rfl) ?_
    obtain ⟨hc13, h⟩ := of_cond0 h
    refine RegI.op (by kernel_rfl) (OpE.idxSl 19 0 22 p1 h8 (by kernel_rfl) rfl (by kernel_rfl) (by kernel_rfl) hc13 ?_)
    intro b14 o15 cs16 hk17 h18
    obtain rfl := hk17
    refine RegI.op (by kernel_rfl) (OpE.loadCel 20 3 5 b14 o15 0 (.int .u8 (rdD p0_0 p1)) h18 (by kernel_rfl) (by kernel_rfl) rfl (by kernel_rfl) ?_)
    refine RegI.pure 1 [4] [(4, .int .u8 (rdD p0_0 p1))] (by kernel_rfl) ?_
    refine RegI.done (by kernel_rfl) ?_
    refine RunsI.ret (.int .u8 (rdD p0_0 p1)) (by kernel_rfl) (by kernel_rfl) ?_
    obtain rfl := Option.some.inj h
    exact ⟨rfl, h18.below⟩
  · skip
    refine RunsI.fix 15 false hc12 (by kernel_rfl) (by kernel_rfl) ?_
    refine RunsI.cond false 11 (by kernel_rfl) ?_
    refine RunsI.go 1 [.c 12] (by kernel_rfl) ?_
    refine RunsI.go 2 [.c 14, .c 15, .c 33] (by kernel_rfl) ?_
    refine RunsI.region (by kernel_rfl) ?_
    refine RegI.pure 1 [2, 5, 7] [(2, .pointer (some ⟨b2, 0, none⟩)), (5, .int .i64 t10), (7, .int .i64 0)] (by kernel_rfl) ?_
    refine RegI.done (by kernel_rfl) ?_
    refine RunsI.go 2 [.c 17, .lp 17, .blk 0, .c 33] (by kernel_rfl) ?_
    obtain ⟨x36, hx37, h⟩ := of_bind h
    refine RunsI.only [2, 5, 7] [(2, .pointer (some ⟨b2, 0, none⟩)), (5, .int .i64 t10), (7, .int .i64 0)] (by kernel_rfl) (by kernel_rfl) ?_
    refine charabancref19_Read_46.l0_ok K M0 w0 pA0_0 pc0_0 pA0_3 pc0_3 p0_0 p0_1 p0_2 p0_3 p1 t10 b2 _ x36 ?_ ?_ K 0 w6 hx37 (h8.pick [2, 0, 1] (by decide))
    · intro w39 hq43 h38
      (try rw [hq43] at h)
      dsimp only [Lp.elim] at h
      refine RunsI.go 1 [.c 34, .c 35] (by kernel_rfl) ?_
      refine RunsI.region (by kernel_rfl) ?_
      refine RegI.pure 1 [4] [(4, .int .u8 0)] (by kernel_rfl) ?_
      refine RegI.done (by kernel_rfl) ?_
      refine RunsI.ret (.int .u8 0) (by kernel_rfl) (by kernel_rfl) ?_
      obtain rfl := Option.some.inj h
      exact ⟨rfl, h38.below⟩
    · intro t40 w42 hq44 h41
      (try rw [hq44] at h)
      dsimp only [Lp.elim] at h
      obtain rfl := Option.some.inj h
      exact ⟨rfl, h41.below⟩
end

/-! ### charabanc/charabancref29.Legal (function 14) -/
section
def charabancref29_Legal_14.post (M0 : Nat → Prop) (w0 : World) (r : Int) : Ending → World → Prop := fun e w => e = .returned (.int .i64 r) ∧ Below w0.heap.size w0 w
def charabancref29_Legal_14.l0 (K : Nat) (p0_0 : List Int) (p0_1 : Int) (p0_2 : Int) (p0_3 : List (Int × Int)) (p1 : List (Int × Int × Int × Int × Int × Int)) : Nat → (List Int) → Int → Int → (List (Int × Int)) → Int → Option (Lp Int Unit)
  | 0, _, _, _, _, _ => none
  | k + 1, t9, t10, t11, t14, t15 => cond (decide (t15 < (p1.length : Int))) (cond (inR t15 p1.length) (Let (fun (t32 : Bool) => Let (fun (t75 : Bool) => cond t75 (some (Lp.ret t15)) ((charabancref29_behind_43.f K t9 t10 t11 t14 ((rdD p1 t15).1) ((rdD p1 t15).2.1) ((rdD p1 t15).2.2.1) ((rdD p1 t15).2.2.2.1) ((rdD p1 t15).2.2.2.2.1) ((rdD p1 t15).2.2.2.2.2)).bind fun yt86 => charabancref29_Legal_14.l0 K p0_0 p0_1 p0_2 p0_3 p1 k yt86.1 yt86.2.1 yt86.2.2.1 yt86.2.2.2 (IntKind.wrap .i64 (t15 + 1)))) (fun j78 => cond (((rdD p1 t15).2.2.2.2.1) != t11) (j78 true) (cond (decide (t15 > 0)) (cond (inR (IntKind.wrap .i64 (t15 - 1)) p1.length) (cond (decide (((rdD p1 t15).1) ≤ ((rdD p1 (IntKind.wrap .i64 (t15 - 1))).1))) (j78 true) (cond t32 ((charabancref19_Read_46.f K t9 t10 t11 t14 ((rdD p1 t15).2.2.2.1)).bind fun t59 => j78 (((rdD p1 t15).2.2.2.2.2) != t59)) (j78 false))) none) (cond t32 ((charabancref19_Read_46.f K t9 t10 t11 t14 ((rdD p1 t15).2.2.2.1)).bind fun t68 => j78 (((rdD p1 t15).2.2.2.2.2) != t68)) (j78 false))))) (fun j35 => cond (((rdD p1 t15).2.2.1) == 1) (j35 true) (j35 (((rdD p1 t15).2.2.1) == 2)))) none) (some (Lp.go ()))
set_option maxRecDepth 100000 in
theorem charabancref29_Legal_14.l0_ok (K : Nat) (M0 : Nat → Prop) (w0 : World) (pA0_0 : Option Addr) (pc0_0 : Nat) (pA0_3 : Option Addr) (pc0_3 : Nat) (pA1 : Option Addr) (pc1 : Nat) (p0_0 : List Int) (p0_1 : Int) (p0_2 : Int) (p0_3 : List (Int × Int)) (p1 : List (Int × Int × Int × Int × Int × Int)) (b6 : Nat) (R : Ending → World → Prop) (x : Lp Int Unit) (hk0 : ∀ (w1 : World), x = Lp.go () → Holds M0 w0 w1 [] → RunsI F14 [.c 29] [] w1 R) (hk1 : ∀ (t100 : Int) (w1 : World), x = Lp.ret t100 → Holds M0 w0 w1 [] → R (.returned (.int .i64 t100)) w1) :
    ∀ (k : Nat) (t9 : List Int) (t10 : Int) (t11 : Int) (t14 : List (Int × Int)) (t15 : Int) (A7 : Option Addr) (c8 : Nat) (A12 : Option Addr) (c13 : Nat) (w : World), charabancref29_Legal_14.l0 K p0_0 p0_1 p0_2 p0_3 p1 k t9 t10 t11 t14 t15 = some x → Holds M0 w0 w [sl (Rp.pair (Rp.int .i64) (Rp.pair (Rp.int .i64) (Rp.pair (Rp.int .i64) (Rp.pair (Rp.int .u16) (Rp.pair (Rp.int .i64) (Rp.int .u8)))))) (.slice pA1 p1.length pc1) p1, box b6 31 [.slice A7 t9.length c8, .int .i64 t10, .int .i64 t11, .slice A12 t14.length c13], sl (Rp.int .u8) (.slice A7 t9.length c8) t9, sl (Rp.pair (Rp.int .i64) (Rp.int .u8)) (.slice A12 t14.length c13) t14] → RunsI F14 [.c 7, .lp 7, .blk 0, .c 29] [(1, .slice pA1 p1.length pc1), (2, .pointer (some ⟨b6, 0, none⟩)), (5, .int .i64 t15)] w R := by
  intro k
  induction k with
  | zero => intro t9 t10 t11 t14 t15 A7 c8 A12 c13 w h hH; exact absurd h (by simp [charabancref29_Legal_14.l0])
  | succ k ih =>
    intro t9 t10 t11 t14 t15 A7 c8 A12 c13 w h hH
    rw [charabancref29_Legal_14.l0.eq_2] at h
    refine RunsI.go 1 [.c 8, .c 13, .lp 7, .blk 0, .c 29] (by kernel_rfl) ?_
    refine RunsI.go 1 [.c 9, .c 10, .c 13, .lp 7, .blk 0, .c 29] (by kernel_rfl) ?_
    refine RunsI.region (by kernel_rfl) ?_
    refine RegI.pure 4 [1, 2, 5, 11] [(1, .slice pA1 p1.length pc1), (2, .pointer (some ⟨b6, 0, none⟩)), (5, .int .i64 t15), (11, .bool (decide (t15 < (p1.length : Int))))] (by kernel_rfl) ?_
    refine RegI.done (by kernel_rfl) ?_
    rcases of_cond h with ⟨hc16, h⟩ | ⟨hc16, h⟩
    · skip
      refine RunsI.fix 11 true hc16 (by kernel_rfl) (by kernel_rfl) ?_
      refine RunsI.cond true 11 (by kernel_rfl) ?_
      refine RunsI.go 1 [.c 13, .lp 7, .blk 0, .c 29] (by kernel_rfl) ?_
      refine RunsI.go 3 [.c 16, .c 17, .blk 1, .c 28, .lp 7, .blk 0, .c 29] (by kernel_rfl) ?_
      refine RunsI.region (by kernel_rfl) ?_
      refine RegI.pure 2 [1, 2, 5, 14, 15] [(1, .slice pA1 p1.length pc1), (2, .pointer (some ⟨b6, 0, none⟩)), (5, .int .i64 t15), (14, .slice pA1 p1.length pc1), (15, .int .i64 t15)] (by kernel_rfl) ?_
      obtain ⟨hc17, h⟩ := of_cond0 h
      refine RegI.op (by kernel_rfl) (OpE.idxSl 16 0 26 t15 hH (by kernel_rfl) rfl (by kernel_rfl) (by kernel_rfl) hc17 ?_)
      intro b18 o19 cs20 hk21 h22
      obtain ⟨_, _, rfl, rfl, ⟨_, _, rfl, rfl, ⟨_, _, rfl, rfl, ⟨_, _, rfl, rfl, ⟨_, _, rfl, rfl, rfl⟩⟩⟩⟩⟩ := hk21
      refine RegI.op (by kernel_rfl) (OpE.loadCel 17 4 54 b18 o19 0 (.agg #[.int .i64 ((rdD p1 t15).1), .int .i64 ((rdD p1 t15).2.1), .int .i64 ((rdD p1 t15).2.2.1), .int .u16 ((rdD p1 t15).2.2.2.1), .int .i64 ((rdD p1 t15).2.2.2.2.1), .int .u8 ((rdD p1 t15).2.2.2.2.2)]) h22 (by kernel_rfl) (by kernel_rfl) rfl (by kernel_rfl) ?_)
      refine RegI.op (by kernel_rfl) (OpE.box 6 54 [.int .i64 0, .int .i64 0, .int .i64 0, .int .u16 0, .int .i64 0, .int .u8 0] h22 (by kernel_rfl) (by kernel_rfl) ?_)
      intro w23 b24 h25 hb26 hn27
      refine RegI.op (by kernel_rfl) (OpE.storeBox 5 54 b24 0 (.agg #[.int .i64 ((rdD p1 t15).1), .int .i64 ((rdD p1 t15).2.1), .int .i64 ((rdD p1 t15).2.2.1), .int .u16 ((rdD p1 t15).2.2.2.1), .int .i64 ((rdD p1 t15).2.2.2.2.1), .int .u8 ((rdD p1 t15).2.2.2.2.2)]) [.int .i64 ((rdD p1 t15).1), .int .i64 ((rdD p1 t15).2.1), .int .i64 ((rdD p1 t15).2.2.1), .int .u16 ((rdD p1 t15).2.2.2.1), .int .i64 ((rdD p1 t15).2.2.2.2.1), .int .u8 ((rdD p1 t15).2.2.2.2.2)] h25 (by kernel_rfl) (by kernel_rfl) rfl (by kernel_rfl) (by kernel_rfl) (by kernel_rfl) ?_)
      intro w28 h29 hk30
      refine RegI.done (by kernel_rfl) ?_
      refine RunsI.go 1 [.c 18, .c 19, .blk 1, .c 28, .lp 7, .blk 0, .c 29] (by kernel_rfl) ?_
      refine RunsI.region (by kernel_rfl) ?_
      refine RegI.pure 1 [1, 2, 5, 6, 18] [(1, .slice pA1 p1.length pc1), (2, .pointer (some ⟨b6, 0, none⟩)), (5, .int .i64 t15), (6, .pointer (some ⟨b24, 0, none⟩)), (18, .pointer (some ⟨b24, 2, none⟩))] (by kernel_rfl) ?_
      refine RegI.op (by kernel_rfl) (OpE.loadBox 19 5 3 b24 2 (.int .i64 ((rdD p1 t15).2.2.1)) h29 (by kernel_rfl) (by kernel_rfl) rfl (by kernel_rfl) ?_)
      refine RegI.pure 2 [1, 2, 5, 6, 21] [(1, .slice pA1 p1.length pc1), (2, .pointer (some ⟨b6, 0, none⟩)), (5, .int .i64 t15), (6, .pointer (some ⟨b24, 0, none⟩)), (21, .bool (((rdD p1 t15).2.2.1) == 1))] (by kernel_rfl) ?_
      obtain ⟨j35, hJ36, h⟩ := of_let h
      have hj37 : ∀ (t32 : Bool) (w34 : World), j35 t32 = some x → Holds M0 w0 w34 [sl (Rp.pair (Rp.int .i64) (Rp.pair (Rp.int .i64) (Rp.pair (Rp.int .i64) (Rp.pair (Rp.int .u16) (Rp.pair (Rp.int .i64) (Rp.int .u8)))))) (.slice pA1 p1.length pc1) p1, box b6 31 [.slice A7 t9.length c8, .int .i64 t10, .int .i64 t11, .slice A12 t14.length c13], sl (Rp.int .u8) (.slice A7 t9.length c8) t9, sl (Rp.pair (Rp.int .i64) (Rp.int .u8)) (.slice A12 t14.length c13) t14, box b24 54 [.int .i64 ((rdD p1 t15).1), .int .i64 ((rdD p1 t15).2.1), .int .i64 ((rdD p1 t15).2.2.1), .int .u16 ((rdD p1 t15).2.2.2.1), .int .i64 ((rdD p1 t15).2.2.2.2.1), .int .u8 ((rdD p1 t15).2.2.2.2.2)]] → RegI F14 18 [.c 19, .blk 1, .c 28, .lp 7, .blk 0, .c 29] 9 [(1, .slice pA1 p1.length pc1), (2, .pointer (some ⟨b6, 0, none⟩)), (5, .int .i64 t15), (6, .pointer (some ⟨b24, 0, none⟩)), (7, .bool t32)] w34 R := by
        intro t32 w34 h h33
        rw [hJ36] at h
        clear hJ36
        dsimp only at h
        refine RegI.done (by kernel_rfl) ?_
        refine RunsI.go 2 [.c 21, .c 22, .c 27, .blk 1, .c 28, .lp 7, .blk 0, .c 29] (by kernel_rfl) ?_
        refine RunsI.any 32 (by kernel_rfl) (by kernel_rfl) (by kernel_rfl) (Kp ([] : List Nat) (World.drew w34)) ?_
        have h39 := h33.drew
        generalize World.drew w34 = w38 at h39 ⊢
        have hS40 := Kp.refl ([] : List Nat) w38
        refine AnyE.pure 0 26 (.pointer (some ⟨b24, 4, none⟩)) (by kernel_rfl) hS40 (fun _ => by kernel_rfl) ?_
        refine AnyE.loadBox 1 27 4 3 b24 4 (.int .i64 ((rdD p1 t15).2.2.2.2.1)) [] h39 rfl (by kernel_rfl) hS40 rfl rfl (by kernel_rfl) (by kernel_rfl) ?_
        refine AnyE.pure 2 28 (.pointer (some ⟨b6, 2, none⟩)) (by kernel_rfl) hS40 (fun _ => by kernel_rfl) ?_
        refine AnyE.loadBox 3 29 1 3 b6 2 (.int .i64 t11) [] h39 rfl (by kernel_rfl) hS40 rfl rfl (by kernel_rfl) (by kernel_rfl) ?_
        refine AnyE.pure 4 30 (.bool (((rdD p1 t15).2.2.2.2.1) != t11)) (by kernel_rfl) hS40 (fun _ => by kernel_rfl) ?_
        refine AnyE.pure 5 31 (.bool (((rdD p1 t15).2.2.2.2.1) != t11)) (by kernel_rfl) hS40 (fun _ => by kernel_rfl) ?_
        obtain ⟨j78, hJ79, h⟩ := of_let h
        have hj80 : ∀ (t75 : Bool) (w77 : World), j78 t75 = some x → Holds M0 w0 w77 [sl (Rp.pair (Rp.int .i64) (Rp.pair (Rp.int .i64) (Rp.pair (Rp.int .i64) (Rp.pair (Rp.int .u16) (Rp.pair (Rp.int .i64) (Rp.int .u8)))))) (.slice pA1 p1.length pc1) p1, box b6 31 [.slice A7 t9.length c8, .int .i64 t10, .int .i64 t11, .slice A12 t14.length c13], sl (Rp.int .u8) (.slice A7 t9.length c8) t9, sl (Rp.pair (Rp.int .i64) (Rp.int .u8)) (.slice A12 t14.length c13) t14, box b24 54 [.int .i64 ((rdD p1 t15).1), .int .i64 ((rdD p1 t15).2.1), .int .i64 ((rdD p1 t15).2.2.1), .int .u16 ((rdD p1 t15).2.2.2.1), .int .i64 ((rdD p1 t15).2.2.2.2.1), .int .u8 ((rdD p1 t15).2.2.2.2.2)]] → RunsI F14 [.c 22, .c 27, .blk 1, .c 28, .lp 7, .blk 0, .c 29] [(1, .slice pA1 p1.length pc1), (2, .pointer (some ⟨b6, 0, none⟩)), (5, .int .i64 t15), (6, .pointer (some ⟨b24, 0, none⟩)), (57, .bool t75)] w77 R := by
          intro t75 w77 h h76
          rw [hJ79] at h
          clear hJ79
          dsimp only at h
          rcases of_cond h with ⟨hc81, h⟩ | ⟨hc81, h⟩
          · skip
            refine RunsI.fix 57 true hc81 (by kernel_rfl) (by kernel_rfl) ?_
            refine RunsI.cond true 23 (by kernel_rfl) ?_
            refine RunsI.go 1 [.c 24, .c 25, .c 27, .blk 1, .c 28, .lp 7, .blk 0, .c 29] (by kernel_rfl) ?_
            refine RunsI.region (by kernel_rfl) ?_
            refine RegI.pure 2 [4] [(4, .int .i64 t15)] (by kernel_rfl) ?_
            refine RegI.done (by kernel_rfl) ?_
            refine RunsI.ret (.int .i64 t15) (by kernel_rfl) (by kernel_rfl) ?_
            exact hk1 t15 w77 (Option.some.inj h).symm (h76.pick [] (by decide))
          · skip
            refine RunsI.fix 57 false hc81 (by kernel_rfl) (by kernel_rfl) ?_
            refine RunsI.cond false 26 (by kernel_rfl) ?_
            refine RunsI.go 1 [.c 27, .blk 1, .c 28, .lp 7, .blk 0, .c 29] (by kernel_rfl) ?_
            refine RunsI.region (by kernel_rfl) ?_
            refine RegI.op (by kernel_rfl) (OpE.loadBox 59 1 31 b6 0 (.agg #[.slice A7 t9.length c8, .int .i64 t10, .int .i64 t11, .slice A12 t14.length c13]) h76 (by kernel_rfl) (by kernel_rfl) rfl (by kernel_rfl) ?_)
            refine RegI.op (by kernel_rfl) (OpE.loadBox 60 4 54 b24 0 (.agg #[.int .i64 ((rdD p1 t15).1), .int .i64 ((rdD p1 t15).2.1), .int .i64 ((rdD p1 t15).2.2.1), .int .u16 ((rdD p1 t15).2.2.2.1), .int .i64 ((rdD p1 t15).2.2.2.2.1), .int .u8 ((rdD p1 t15).2.2.2.2.2)]) h76 (by kernel_rfl) (by kernel_rfl) rfl (by kernel_rfl) ?_)
            obtain ⟨⟨t86, t90, t91, t92⟩, hg85, h⟩ := of_bind h
            dsimp only at h
            refine RegI.op (by kernel_rfl) (OpE.call 61 (by kernel_rfl) 43 #[.agg #[.slice A7 t9.length c8, .int .i64 t10, .int .i64 t11, .slice A12 t14.length c13], .agg #[.int .i64 ((rdD p1 t15).1), .int .i64 ((rdD p1 t15).2.1), .int .i64 ((rdD p1 t15).2.2.1), .int .u16 ((rdD p1 t15).2.2.2.1), .int .i64 ((rdD p1 t15).2.2.2.2.1), .int .u8 ((rdD p1 t15).2.2.2.2.2)]] (by kernel_rfl) ((charabancref29_behind_43_ok K _ w77  A7 c8 A12 c13 t9 t10 t11 t14 ((rdD p1 t15).1) ((rdD p1 t15).2.1) ((rdD p1 t15).2.2.1) ((rdD p1 t15).2.2.2.1) ((rdD p1 t15).2.2.2.2.1) ((rdD p1 t15).2.2.2.2.2) h76.old' (h76.get 2 rfl) (h76.get 3 rfl) hg85).mono ?_))
            rintro _ w82 ⟨A87, c88, A93, c94, rfl, hr96⟩
            refine ⟨_, rfl, ?_⟩
            have hb83 := hr96.below
            have h84 := h76.join hr96
            refine RegI.op (by kernel_rfl) (OpE.storeBox 1 31 b6 0 (.agg #[.slice A87 t86.length c88, .int .i64 t90, .int .i64 t91, .slice A93 t92.length c94]) [.slice A87 t86.length c88, .int .i64 t90, .int .i64 t91, .slice A93 t92.length c94] h84 (by kernel_rfl) (by kernel_rfl) rfl (by kernel_rfl) (by kernel_rfl) (by kernel_rfl) ?_)
            intro w97 h98 hk99
            refine RegI.done (by kernel_rfl) ?_
            refine RunsI.go 1 [.c 28, .lp 7, .blk 0, .c 29] (by kernel_rfl) ?_
            refine RunsI.region (by kernel_rfl) ?_
            refine RegI.pure 3 [1, 2, 5] [(1, .slice pA1 p1.length pc1), (2, .pointer (some ⟨b6, 0, none⟩)), (5, .int .i64 (IntKind.wrap .i64 (t15 + 1)))] (by kernel_rfl) ?_
            refine RegI.done (by kernel_rfl) ?_
            refine RunsI.go 1 [.c 7, .lp 7, .blk 0, .c 29] (by kernel_rfl) ?_
            refine RunsI.only [1, 2, 5] [(1, .slice pA1 p1.length pc1), (2, .pointer (some ⟨b6, 0, none⟩)), (5, .int .i64 (IntKind.wrap .i64 (t15 + 1)))] (by kernel_rfl) (by kernel_rfl) ?_
            exact ih t86 t90 t91 t92 (IntKind.wrap .i64 (t15 + 1)) A87 c88 A93 c94 w97 h (h98.pick [0, 1, 5, 6] (by decide))
        clear hJ79
        rcases of_cond h with ⟨hc42, h⟩ | ⟨hc42, h⟩
        · skip
          refine AnyE.fix 31 true hc42 (by kernel_rfl) (by kernel_rfl) ?_
          refine AnyE.no 6 32 (by kernel_rfl) hS40 ?_
          refine AnyE.no 7 33 (by kernel_rfl) hS40 ?_
          refine AnyE.no 8 34 (by kernel_rfl) hS40 ?_
          refine AnyE.no 9 35 (by kernel_rfl) hS40 ?_
          refine AnyE.no 10 36 (by kernel_rfl) hS40 ?_
          refine AnyE.no 11 37 (by kernel_rfl) hS40 ?_
          refine AnyE.no 12 38 (by kernel_rfl) hS40 ?_
          refine AnyE.no 13 39 (by kernel_rfl) hS40 ?_
          refine AnyE.no 14 40 (by kernel_rfl) hS40 ?_
          refine AnyE.no 15 41 (by kernel_rfl) hS40 ?_
          refine AnyE.no 16 42 (by kernel_rfl) hS40 ?_
          refine AnyE.no 17 43 (by kernel_rfl) hS40 ?_
          refine AnyE.no 18 44 (by kernel_rfl) hS40 ?_
          refine AnyE.pure 19 45 (.bool true) (by kernel_rfl) hS40 (fun _ => by kernel_rfl) ?_
          refine AnyE.pure 20 46 (.bool true) (by kernel_rfl) hS40 (fun _ => by kernel_rfl) ?_
          refine AnyE.no 21 47 (by kernel_rfl) hS40 ?_
          refine AnyE.no 22 48 (by kernel_rfl) hS40 ?_
          refine AnyE.no 23 49 (by kernel_rfl) hS40 ?_
          refine AnyE.no 24 50 (by kernel_rfl) hS40 ?_
          refine AnyE.no 25 51 (by kernel_rfl) hS40 ?_
          refine AnyE.no 26 52 (by kernel_rfl) hS40 ?_
          refine AnyE.no 27 53 (by kernel_rfl) hS40 ?_
          refine AnyE.no 28 54 (by kernel_rfl) hS40 ?_
          refine AnyE.no 29 55 (by kernel_rfl) hS40 ?_
          refine AnyE.no 30 56 (by kernel_rfl) hS40 ?_
          refine AnyE.pure 31 57 (.bool true) (by kernel_rfl) hS40 (fun _ => by kernel_rfl) ?_
          refine AnyE.done (by kernel_rfl) (fun w43 hu44 => ?_)
          have h45 := h39.call hu44
          refine RunsI.only [1, 2, 5, 6, 57] [(1, .slice pA1 p1.length pc1), (2, .pointer (some ⟨b6, 0, none⟩)), (5, .int .i64 t15), (6, .pointer (some ⟨b24, 0, none⟩)), (57, .bool true)] (by kernel_rfl) (by kernel_rfl) ?_
          refine RunsI.only [1, 2, 5, 6, 57] [(1, .slice pA1 p1.length pc1), (2, .pointer (some ⟨b6, 0, none⟩)), (5, .int .i64 t15), (6, .pointer (some ⟨b24, 0, none⟩)), (57, .bool true)] (by kernel_rfl) (by kernel_rfl) ?_
          exact hj80 true w43 h (h45.pick [0, 1, 2, 3, 4] (by decide))
        · skip
          refine AnyE.fix 31 false hc42 (by kernel_rfl) (by kernel_rfl) ?_
          refine AnyE.pure 6 32 (.int .i64 t15) (by kernel_rfl) hS40 (fun _ => by kernel_rfl) ?_
          refine AnyE.pure 7 33 (.bool (decide (t15 > 0))) (by kernel_rfl) hS40 (fun _ => by kernel_rfl) ?_
          refine AnyE.pure 8 34 (.bool (decide (t15 > 0))) (by kernel_rfl) hS40 (fun _ => by kernel_rfl) ?_
          rcases of_cond h with ⟨hc46, h⟩ | ⟨hc46, h⟩
          · skip
            refine AnyE.fix 34 true hc46 (by kernel_rfl) (by kernel_rfl) ?_
            refine AnyE.pure 9 35 (.pointer (some ⟨b24, 0, none⟩)) (by kernel_rfl) hS40 (fun _ => by kernel_rfl) ?_
            refine AnyE.loadBox 10 36 4 3 b24 0 (.int .i64 ((rdD p1 t15).1)) [] h39 rfl (by kernel_rfl) hS40 rfl rfl (by kernel_rfl) (by kernel_rfl) ?_
            refine AnyE.pure 11 37 (.slice pA1 p1.length pc1) (by kernel_rfl) hS40 (fun _ => by kernel_rfl) ?_
            refine AnyE.pure 12 38 (.int .i64 t15) (by kernel_rfl) hS40 (fun _ => by kernel_rfl) ?_
            refine AnyE.pure 13 39 (.int .i64 (IntKind.wrap .i64 (t15 - 1))) (by kernel_rfl) hS40 (fun _ => by kernel_rfl) ?_
            obtain ⟨hc47, h⟩ := of_cond0 h
            refine AnyE.idxSl 14 40 0 26 (IntKind.wrap .i64 (t15 - 1)) h39 (by kernel_rfl) hS40 rfl (by kernel_rfl) (by kernel_rfl) hc47 ?_
            intro b48 o49 cs50 hk51 h52
            obtain ⟨_, _, rfl, rfl, ⟨_, _, rfl, rfl, ⟨_, _, rfl, rfl, ⟨_, _, rfl, rfl, ⟨_, _, rfl, rfl, rfl⟩⟩⟩⟩⟩ := hk51
            refine AnyE.pure 15 41 (.pointer (some ⟨b48, o49, none⟩)) (by kernel_rfl) hS40 (fun _ => by kernel_rfl) ?_
            refine AnyE.loadCel 16 42 5 3 b48 o49 0 (.int .i64 ((rdD p1 (IntKind.wrap .i64 (t15 - 1))).1)) [] h52 rfl (by kernel_rfl) hS40 rfl rfl (by kernel_rfl) (by kernel_rfl) ?_
            refine AnyE.pure 17 43 (.bool (decide (((rdD p1 t15).1) ≤ ((rdD p1 (IntKind.wrap .i64 (t15 - 1))).1)))) (by kernel_rfl) hS40 (fun _ => by kernel_rfl) ?_
            refine AnyE.pure 18 44 (.bool (decide (((rdD p1 t15).1) ≤ ((rdD p1 (IntKind.wrap .i64 (t15 - 1))).1)))) (by kernel_rfl) hS40 (fun _ => by kernel_rfl) ?_
            refine AnyE.pure 19 45 (.bool (decide (((rdD p1 t15).1) ≤ ((rdD p1 (IntKind.wrap .i64 (t15 - 1))).1)))) (by kernel_rfl) hS40 (fun _ => by kernel_rfl) ?_
            refine AnyE.pure 20 46 (.bool (decide (((rdD p1 t15).1) ≤ ((rdD p1 (IntKind.wrap .i64 (t15 - 1))).1)))) (by kernel_rfl) hS40 (fun _ => by kernel_rfl) ?_
            rcases of_cond h with ⟨hc53, h⟩ | ⟨hc53, h⟩
            · skip
              refine AnyE.fix 46 true hc53 (by kernel_rfl) (by kernel_rfl) ?_
              refine AnyE.no 21 47 (by kernel_rfl) hS40 ?_
              refine AnyE.no 22 48 (by kernel_rfl) hS40 ?_
              refine AnyE.no 23 49 (by kernel_rfl) hS40 ?_
              refine AnyE.no 24 50 (by kernel_rfl) hS40 ?_
              refine AnyE.no 25 51 (by kernel_rfl) hS40 ?_
              refine AnyE.no 26 52 (by kernel_rfl) hS40 ?_
              refine AnyE.no 27 53 (by kernel_rfl) hS40 ?_
              refine AnyE.no 28 54 (by kernel_rfl) hS40 ?_
              refine AnyE.no 29 55 (by kernel_rfl) hS40 ?_
              refine AnyE.no 30 56 (by kernel_rfl) hS40 ?_
              refine AnyE.pure 31 57 (.bool true) (by kernel_rfl) hS40 (fun _ => by kernel_rfl) ?_
              refine AnyE.done (by kernel_rfl) (fun w54 hu55 => ?_)
              have h56 := h52.call hu55
              refine RunsI.only [1, 2, 5, 6, 57] [(1, .slice pA1 p1.length pc1), (2, .pointer (some ⟨b6, 0, none⟩)), (5, .int .i64 t15), (6, .pointer (some ⟨b24, 0, none⟩)), (57, .bool true)] (by kernel_rfl) (by kernel_rfl) ?_
              refine RunsI.only [1, 2, 5, 6, 57] [(1, .slice pA1 p1.length pc1), (2, .pointer (some ⟨b6, 0, none⟩)), (5, .int .i64 t15), (6, .pointer (some ⟨b24, 0, none⟩)), (57, .bool true)] (by kernel_rfl) (by kernel_rfl) ?_
              exact hj80 true w54 h (h56.pick [0, 1, 2, 3, 4] (by decide))
            · skip
              refine AnyE.fix 46 false hc53 (by kernel_rfl) (by kernel_rfl) ?_
              refine AnyE.pure 21 47 (.bool t32) (by kernel_rfl) hS40 (fun _ => by kernel_rfl) ?_
              refine AnyE.pure 22 48 (.bool t32) (by kernel_rfl) hS40 (fun _ => by kernel_rfl) ?_
              rcases of_cond h with ⟨hc57, h⟩ | ⟨hc57, h⟩
              · skip
                refine AnyE.fix 48 true hc57 (by kernel_rfl) (by kernel_rfl) ?_
                refine AnyE.pure 23 49 (.pointer (some ⟨b24, 5, none⟩)) (by kernel_rfl) hS40 (fun _ => by kernel_rfl) ?_
                refine AnyE.loadBox 24 50 4 5 b24 5 (.int .u8 ((rdD p1 t15).2.2.2.2.2)) [] h52 rfl (by kernel_rfl) hS40 rfl rfl (by kernel_rfl) (by kernel_rfl) ?_
                refine AnyE.loadBox 25 51 1 31 b6 0 (.agg #[.slice A7 t9.length c8, .int .i64 t10, .int .i64 t11, .slice A12 t14.length c13]) [] h52 rfl (by kernel_rfl) hS40 rfl rfl (by kernel_rfl) (by kernel_rfl) ?_
                refine AnyE.pure 26 52 (.pointer (some ⟨b24, 3, none⟩)) (by kernel_rfl) hS40 (fun _ => by kernel_rfl) ?_
                refine AnyE.loadBox 27 53 4 52 b24 3 (.int .u16 ((rdD p1 t15).2.2.2.1)) [] h52 rfl (by kernel_rfl) hS40 rfl rfl (by kernel_rfl) (by kernel_rfl) ?_
                obtain ⟨t59, hg58, h⟩ := of_bind h
                refine AnyE.call 28 54 (.int .u8 t59) 46 #[.agg #[.slice A7 t9.length c8, .int .i64 t10, .int .i64 t11, .slice A12 t14.length c13], .int .u16 ((rdD p1 t15).2.2.2.1)] (by kernel_rfl) hS40 (fun _ => by kernel_rfl) (fun w hk => charabancref19_Read_46_ok K (fun _ => False) w A7 c8 A12 c13 t9 t10 t11 t14 ((rdD p1 t15).2.2.2.1) (fun _ hf => hf.elim) (Sl.mono (h52.atI [] rfl hk 2 rfl rfl) (fun _ _ hf => hf.elim)) (Sl.mono (h52.atI [] rfl hk 3 rfl rfl) (fun _ _ hf => hf.elim)) hg58) ?_
                refine AnyE.pure 29 55 (.bool (((rdD p1 t15).2.2.2.2.2) != t59)) (by kernel_rfl) hS40 (fun _ => by kernel_rfl) ?_
                refine AnyE.pure 30 56 (.bool (((rdD p1 t15).2.2.2.2.2) != t59)) (by kernel_rfl) hS40 (fun _ => by kernel_rfl) ?_
                refine AnyE.pure 31 57 (.bool (((rdD p1 t15).2.2.2.2.2) != t59)) (by kernel_rfl) hS40 (fun _ => by kernel_rfl) ?_
                refine AnyE.done (by kernel_rfl) (fun w60 hu61 => ?_)
                have h62 := h52.call hu61
                refine RunsI.only [1, 2, 5, 6, 57] [(1, .slice pA1 p1.length pc1), (2, .pointer (some ⟨b6, 0, none⟩)), (5, .int .i64 t15), (6, .pointer (some ⟨b24, 0, none⟩)), (57, .bool (((rdD p1 t15).2.2.2.2.2) != t59))] (by kernel_rfl) (by kernel_rfl) ?_
                refine RunsI.only [1, 2, 5, 6, 57] [(1, .slice pA1 p1.length pc1), (2, .pointer (some ⟨b6, 0, none⟩)), (5, .int .i64 t15), (6, .pointer (some ⟨b24, 0, none⟩)), (57, .bool (((rdD p1 t15).2.2.2.2.2) != t59))] (by kernel_rfl) (by kernel_rfl) ?_
                exact hj80 (((rdD p1 t15).2.2.2.2.2) != t59) w60 h (h62.pick [0, 1, 2, 3, 4] (by decide))
              · skip
                refine AnyE.fix 48 false hc57 (by kernel_rfl) (by kernel_rfl) ?_
                refine AnyE.no 23 49 (by kernel_rfl) hS40 ?_
                refine AnyE.no 24 50 (by kernel_rfl) hS40 ?_
                refine AnyE.no 25 51 (by kernel_rfl) hS40 ?_
                refine AnyE.no 26 52 (by kernel_rfl) hS40 ?_
                refine AnyE.no 27 53 (by kernel_rfl) hS40 ?_
                refine AnyE.no 28 54 (by kernel_rfl) hS40 ?_
                refine AnyE.no 29 55 (by kernel_rfl) hS40 ?_
                refine AnyE.pure 30 56 (.bool false) (by kernel_rfl) hS40 (fun _ => by kernel_rfl) ?_
                refine AnyE.pure 31 57 (.bool false) (by kernel_rfl) hS40 (fun _ => by kernel_rfl) ?_
                refine AnyE.done (by kernel_rfl) (fun w63 hu64 => ?_)
                have h65 := h52.call hu64
                refine RunsI.only [1, 2, 5, 6, 57] [(1, .slice pA1 p1.length pc1), (2, .pointer (some ⟨b6, 0, none⟩)), (5, .int .i64 t15), (6, .pointer (some ⟨b24, 0, none⟩)), (57, .bool false)] (by kernel_rfl) (by kernel_rfl) ?_
                refine RunsI.only [1, 2, 5, 6, 57] [(1, .slice pA1 p1.length pc1), (2, .pointer (some ⟨b6, 0, none⟩)), (5, .int .i64 t15), (6, .pointer (some ⟨b24, 0, none⟩)), (57, .bool false)] (by kernel_rfl) (by kernel_rfl) ?_
                exact hj80 false w63 h (h65.pick [0, 1, 2, 3, 4] (by decide))
          · skip
            refine AnyE.fix 34 false hc46 (by kernel_rfl) (by kernel_rfl) ?_
            refine AnyE.no 9 35 (by kernel_rfl) hS40 ?_
            refine AnyE.no 10 36 (by kernel_rfl) hS40 ?_
            refine AnyE.no 11 37 (by kernel_rfl) hS40 ?_
            refine AnyE.no 12 38 (by kernel_rfl) hS40 ?_
            refine AnyE.no 13 39 (by kernel_rfl) hS40 ?_
            refine AnyE.no 14 40 (by kernel_rfl) hS40 ?_
            refine AnyE.no 15 41 (by kernel_rfl) hS40 ?_
            refine AnyE.no 16 42 (by kernel_rfl) hS40 ?_
            refine AnyE.no 17 43 (by kernel_rfl) hS40 ?_
            refine AnyE.pure 18 44 (.bool false) (by kernel_rfl) hS40 (fun _ => by kernel_rfl) ?_
            refine AnyE.pure 19 45 (.bool false) (by kernel_rfl) hS40 (fun _ => by kernel_rfl) ?_
            refine AnyE.pure 20 46 (.bool false) (by kernel_rfl) hS40 (fun _ => by kernel_rfl) ?_
            refine AnyE.pure 21 47 (.bool t32) (by kernel_rfl) hS40 (fun _ => by kernel_rfl) ?_
            refine AnyE.pure 22 48 (.bool t32) (by kernel_rfl) hS40 (fun _ => by kernel_rfl) ?_
            rcases of_cond h with ⟨hc66, h⟩ | ⟨hc66, h⟩
            · skip
              refine AnyE.fix 48 true hc66 (by kernel_rfl) (by kernel_rfl) ?_
              refine AnyE.pure 23 49 (.pointer (some ⟨b24, 5, none⟩)) (by kernel_rfl) hS40 (fun _ => by kernel_rfl) ?_
              refine AnyE.loadBox 24 50 4 5 b24 5 (.int .u8 ((rdD p1 t15).2.2.2.2.2)) [] h39 rfl (by kernel_rfl) hS40 rfl rfl (by kernel_rfl) (by kernel_rfl) ?_
              refine AnyE.loadBox 25 51 1 31 b6 0 (.agg #[.slice A7 t9.length c8, .int .i64 t10, .int .i64 t11, .slice A12 t14.length c13]) [] h39 rfl (by kernel_rfl) hS40 rfl rfl (by kernel_rfl) (by kernel_rfl) ?_
              refine AnyE.pure 26 52 (.pointer (some ⟨b24, 3, none⟩)) (by kernel_rfl) hS40 (fun _ => by kernel_rfl) ?_
              refine AnyE.loadBox 27 53 4 52 b24 3 (.int .u16 ((rdD p1 t15).2.2.2.1)) [] h39 rfl (by kernel_rfl) hS40 rfl rfl (by kernel_rfl) (by kernel_rfl) ?_
              obtain ⟨t68, hg67, h⟩ := of_bind h
              refine AnyE.call 28 54 (.int .u8 t68) 46 #[.agg #[.slice A7 t9.length c8, .int .i64 t10, .int .i64 t11, .slice A12 t14.length c13], .int .u16 ((rdD p1 t15).2.2.2.1)] (by kernel_rfl) hS40 (fun _ => by kernel_rfl) (fun w hk => charabancref19_Read_46_ok K (fun _ => False) w A7 c8 A12 c13 t9 t10 t11 t14 ((rdD p1 t15).2.2.2.1) (fun _ hf => hf.elim) (Sl.mono (h39.atI [] rfl hk 2 rfl rfl) (fun _ _ hf => hf.elim)) (Sl.mono (h39.atI [] rfl hk 3 rfl rfl) (fun _ _ hf => hf.elim)) hg67) ?_
              refine AnyE.pure 29 55 (.bool (((rdD p1 t15).2.2.2.2.2) != t68)) (by kernel_rfl) hS40 (fun _ => by kernel_rfl) ?_
              refine AnyE.pure 30 56 (.bool (((rdD p1 t15).2.2.2.2.2) != t68)) (by kernel_rfl) hS40 (fun _ => by kernel_rfl) ?_
              refine AnyE.pure 31 57 (.bool (((rdD p1 t15).2.2.2.2.2) != t68)) (by kernel_rfl) hS40 (fun _ => by kernel_rfl) ?_
              refine AnyE.done (by kernel_rfl) (fun w69 hu70 => ?_)
              have h71 := h39.call hu70
              refine RunsI.only [1, 2, 5, 6, 57] [(1, .slice pA1 p1.length pc1), (2, .pointer (some ⟨b6, 0, none⟩)), (5, .int .i64 t15), (6, .pointer (some ⟨b24, 0, none⟩)), (57, .bool (((rdD p1 t15).2.2.2.2.2) != t68))] (by kernel_rfl) (by kernel_rfl) ?_
              refine RunsI.only [1, 2, 5, 6, 57] [(1, .slice pA1 p1.length pc1), (2, .pointer (some ⟨b6, 0, none⟩)), (5, .int .i64 t15), (6, .pointer (some ⟨b24, 0, none⟩)), (57, .bool (((rdD p1 t15).2.2.2.2.2) != t68))] (by kernel_rfl) (by kernel_rfl) ?_
              exact hj80 (((rdD p1 t15).2.2.2.2.2) != t68) w69 h (h71.pick [0, 1, 2, 3, 4] (by decide))
            · skip
              refine AnyE.fix 48 false hc66 (by kernel_rfl) (by kernel_rfl) ?_
              refine AnyE.no 23 49 (by kernel_rfl) hS40 ?_
              refine AnyE.no 24 50 (by kernel_rfl) hS40 ?_
              refine AnyE.no 25 51 (by kernel_rfl) hS40 ?_
              refine AnyE.no 26 52 (by kernel_rfl) hS40 ?_
              refine AnyE.no 27 53 (by kernel_rfl) hS40 ?_
              refine AnyE.no 28 54 (by kernel_rfl) hS40 ?_
              refine AnyE.no 29 55 (by kernel_rfl) hS40 ?_
              refine AnyE.pure 30 56 (.bool false) (by kernel_rfl) hS40 (fun _ => by kernel_rfl) ?_
              refine AnyE.pure 31 57 (.bool false) (by kernel_rfl) hS40 (fun _ => by kernel_rfl) ?_
              refine AnyE.done (by kernel_rfl) (fun w72 hu73 => ?_)
              have h74 := h39.call hu73
              refine RunsI.only [1, 2, 5, 6, 57] [(1, .slice pA1 p1.length pc1), (2, .pointer (some ⟨b6, 0, none⟩)), (5, .int .i64 t15), (6, .pointer (some ⟨b24, 0, none⟩)), (57, .bool false)] (by kernel_rfl) (by kernel_rfl) ?_
              refine RunsI.only [1, 2, 5, 6, 57] [(1, .slice pA1 p1.length pc1), (2, .pointer (some ⟨b6, 0, none⟩)), (5, .int .i64 t15), (6, .pointer (some ⟨b24, 0, none⟩)), (57, .bool false)] (by kernel_rfl) (by kernel_rfl) ?_
              exact hj80 false w72 h (h74.pick [0, 1, 2, 3, 4] (by decide))
      clear hJ36
      rcases of_cond h with ⟨hc31, h⟩ | ⟨hc31, h⟩
      · skip
        refine RegI.fix 21 true hc31 (by kernel_rfl) (by kernel_rfl) ?_
        refine RegI.pure 5 [1, 2, 5, 6, 7] [(1, .slice pA1 p1.length pc1), (2, .pointer (some ⟨b6, 0, none⟩)), (5, .int .i64 t15), (6, .pointer (some ⟨b24, 0, none⟩)), (7, .bool true)] (by kernel_rfl) ?_
        refine RegI.only [1, 2, 5, 6, 7] [(1, .slice pA1 p1.length pc1), (2, .pointer (some ⟨b6, 0, none⟩)), (5, .int .i64 t15), (6, .pointer (some ⟨b24, 0, none⟩)), (7, .bool true)] (by kernel_rfl) (by kernel_rfl) ?_
        exact hj37 true w28 h (h29.pick [0, 1, 2, 3, 5] (by decide))
      · skip
        refine RegI.fix 21 false hc31 (by kernel_rfl) (by kernel_rfl) ?_
        refine RegI.pure 1 [1, 2, 5, 6, 21, 22] [(1, .slice pA1 p1.length pc1), (2, .pointer (some ⟨b6, 0, none⟩)), (5, .int .i64 t15), (6, .pointer (some ⟨b24, 0, none⟩)), (21, .bool false), (22, .pointer (some ⟨b24, 2, none⟩))] (by kernel_rfl) ?_
        refine RegI.op (by kernel_rfl) (OpE.loadBox 23 5 3 b24 2 (.int .i64 ((rdD p1 t15).2.2.1)) h29 (by kernel_rfl) (by kernel_rfl) rfl (by kernel_rfl) ?_)
        refine RegI.pure 3 [1, 2, 5, 6, 7] [(1, .slice pA1 p1.length pc1), (2, .pointer (some ⟨b6, 0, none⟩)), (5, .int .i64 t15), (6, .pointer (some ⟨b24, 0, none⟩)), (7, .bool (((rdD p1 t15).2.2.1) == 2))] (by kernel_rfl) ?_
        refine RegI.only [1, 2, 5, 6, 7] [(1, .slice pA1 p1.length pc1), (2, .pointer (some ⟨b6, 0, none⟩)), (5, .int .i64 t15), (6, .pointer (some ⟨b24, 0, none⟩)), (7, .bool (((rdD p1 t15).2.2.1) == 2))] (by kernel_rfl) (by kernel_rfl) ?_
        exact hj37 (((rdD p1 t15).2.2.1) == 2) w28 h (h29.pick [0, 1, 2, 3, 5] (by decide))
    · skip
      refine RunsI.fix 11 false hc16 (by kernel_rfl) (by kernel_rfl) ?_
      refine RunsI.cond false 12 (by kernel_rfl) ?_
      refine RunsI.go 1 [.c 29] (by kernel_rfl) ?_
      refine RunsI.only [] [] (by kernel_rfl) (by kernel_rfl) ?_
      exact hk0 w (Option.some.inj h).symm (hH.pick [] (by decide))
def charabancref29_Legal_14.f (K : Nat) (p0_0 : List Int) (p0_1 : Int) (p0_2 : Int) (p0_3 : List (Int × Int)) (p1 : List (Int × Int × Int × Int × Int × Int)) : Option Int := (charabancref29_Legal_14.l0 K p0_0 p0_1 p0_2 p0_3 p1 K p0_0 p0_1 p0_2 p0_3 0).bind (fun x101 => Lp.elim x101 (fun t105 => some t105) (fun _ => some (-1)))
set_option maxRecDepth 100000 in
theorem charabancref29_Legal_14_ok (K : Nat) (M0 : Nat → Prop) (w0 : World) (pA0_0 : Option Addr) (pc0_0 : Nat) (pA0_3 : Option Addr) (pc0_3 : Nat) (pA1 : Option Addr) (pc1 : Nat) (p0_0 : List Int) (p0_1 : Int) (p0_2 : Int) (p0_3 : List (Int × Int)) (p1 : List (Int × Int × Int × Int × Int × Int)) (ho : ∀ b, M0 b → b < w0.heap.size) (hs0_0 : Sl (Rp.int .u8) w0 M0 (.slice pA0_0 p0_0.length pc0_0) p0_0) (hs0_3 : Sl (Rp.pair (Rp.int .i64) (Rp.int .u8)) w0 M0 (.slice pA0_3 p0_3.length pc0_3) p0_3) (hs1 : Sl (Rp.pair (Rp.int .i64) (Rp.pair (Rp.int .i64) (Rp.pair (Rp.int .i64) (Rp.pair (Rp.int .u16) (Rp.pair (Rp.int .i64) (Rp.int .u8)))))) w0 M0 (.slice pA1 p1.length pc1) p1) {r : Int} (h : charabancref29_Legal_14.f K p0_0 p0_1 p0_2 p0_3 p1 = some r) :
    Calls Tryd.prog 14 #[.agg #[.slice pA0_0 p0_0.length pc0_0, .int .i64 p0_1, .int .i64 p0_2, .slice pA0_3 p0_3.length pc0_3], .slice pA1 p1.length pc1] w0 (charabancref29_Legal_14.post M0 w0 r) := by
  unfold charabancref29_Legal_14.f at h
  have h0 : Holds M0 w0 w0 [] := Holds.start ho
  have h00_0 := h0.addSl (Rp.int .u8) (.slice pA0_0 p0_0.length pc0_0) p0_0 (hs0_0.mono (fun _ _ hm => hm.elim id (fun hm => absurd hm (by simp [mines, sl]))))
  have h00_3 := h00_0.addSl (Rp.pair (Rp.int .i64) (Rp.int .u8)) (.slice pA0_3 p0_3.length pc0_3) p0_3 (hs0_3.mono (fun _ _ hm => hm.elim id (fun hm => absurd hm (by simp [mines, sl]))))
  have h01 := h00_3.addSl (Rp.pair (Rp.int .i64) (Rp.pair (Rp.int .i64) (Rp.pair (Rp.int .i64) (Rp.pair (Rp.int .u16) (Rp.pair (Rp.int .i64) (Rp.int .u8)))))) (.slice pA1 p1.length pc1) p1 (hs1.mono (fun _ _ hm => hm.elim id (fun hm => absurd hm (by simp [mines, sl]))))
  have h0 : Holds M0 w0 w0 [sl (Rp.int .u8) (.slice pA0_0 p0_0.length pc0_0) p0_0, sl (Rp.pair (Rp.int .i64) (Rp.int .u8)) (.slice pA0_3 p0_3.length pc0_3) p0_3, sl (Rp.pair (Rp.int .i64) (Rp.pair (Rp.int .i64) (Rp.pair (Rp.int .i64) (Rp.pair (Rp.int .u16) (Rp.pair (Rp.int .i64) (Rp.int .u8)))))) (.slice pA1 p1.length pc1) p1] := h01
  refine calls_of F14 rfl [.agg #[.slice pA0_0 p0_0.length pc0_0, .int .i64 p0_1, .int .i64 p0_2, .slice pA0_3 p0_3.length pc0_3], .slice pA1 p1.length pc1] (by kernel_rfl) ?_
  refine RunsI.go 1 [.c 1, .c 2] (by kernel_rfl) ?_
  refine RunsI.region (by kernel_rfl) ?_
  refine RegI.op (by kernel_rfl) (OpE.box 2 31 [.slice pA0_0 p0_0.length pc0_0, .int .i64 p0_1, .int .i64 p0_2, .slice pA0_3 p0_3.length pc0_3] h0 (by kernel_rfl) (by kernel_rfl) ?_)
  intro w1 b2 h3 hb4 hn5
  refine RegI.pure 1 [1, 2] [(1, .slice pA1 p1.length pc1), (2, .pointer (some ⟨b2, 0, none⟩))] (by kernel_rfl) ?_
  refine RegI.done (by kernel_rfl) ?_
  refine RunsI.go 2 [.c 4, .c 5, .c 29] (by kernel_rfl) ?_
  refine RunsI.region (by kernel_rfl) ?_
  refine RegI.pure 1 [1, 2, 5] [(1, .slice pA1 p1.length pc1), (2, .pointer (some ⟨b2, 0, none⟩)), (5, .int .i64 0)] (by kernel_rfl) ?_
  refine RegI.done (by kernel_rfl) ?_
  refine RunsI.go 2 [.c 7, .lp 7, .blk 0, .c 29] (by kernel_rfl) ?_
  obtain ⟨x101, hx102, h⟩ := of_bind h
  refine RunsI.only [1, 2, 5] [(1, .slice pA1 p1.length pc1), (2, .pointer (some ⟨b2, 0, none⟩)), (5, .int .i64 0)] (by kernel_rfl) (by kernel_rfl) ?_
  refine charabancref29_Legal_14.l0_ok K M0 w0 pA0_0 pc0_0 pA0_3 pc0_3 pA1 pc1 p0_0 p0_1 p0_2 p0_3 p1 b2 _ x101 ?_ ?_ K p0_0 p0_1 p0_2 p0_3 0 pA0_0 pc0_0 pA0_3 pc0_3 w1 hx102 (h3.pick [2, 3, 0, 1] (by decide))
  · intro w104 hq108 h103
    (try rw [hq108] at h)
    dsimp only [Lp.elim] at h
    refine RunsI.go 1 [.c 30, .c 31] (by kernel_rfl) ?_
    refine RunsI.region (by kernel_rfl) ?_
    refine RegI.pure 1 [4] [(4, .int .i64 (-1))] (by kernel_rfl) ?_
    refine RegI.done (by kernel_rfl) ?_
    refine RunsI.ret (.int .i64 (-1)) (by kernel_rfl) (by kernel_rfl) ?_
    obtain rfl := Option.some.inj h
    exact ⟨rfl, h103.below⟩
  · intro t105 w107 hq109 h106
    (try rw [hq109] at h)
    dsimp only [Lp.elim] at h
    obtain rfl := Option.some.inj h
    exact ⟨rfl, h106.below⟩
end

/-! ### charabanc/charabancref19.Same (function 15) -/
section
def charabancref19_Same_15.post (M0 : Nat → Prop) (w0 : World) (r : Bool) : Ending → World → Prop := fun e w => e = .returned (.bool r) ∧ Below w0.heap.size w0 w
def charabancref19_Same_15.l0 (K : Nat) (p0_0 : List Int) (p0_1 : Int) (p0_2 : Int) (p0_3 : List (Int × Int)) (p1_0 : List Int) (p1_1 : Int) (p1_2 : Int) (p1_3 : List (Int × Int)) : Nat → Int → Option (Lp Unit Unit)
  | 0, _ => none
  | k + 1, t23 => cond (decide (t23 < (p0_3.length : Int))) (cond (inR t23 p0_3.length) (cond (inR t23 p1_3.length) (cond (!((((rdD p0_3 t23).1) == ((rdD p1_3 t23).1)) && ((((rdD p0_3 t23).2) == ((rdD p1_3 t23).2)) && true))) (some (Lp.ret ())) (charabancref19_Same_15.l0 K p0_0 p0_1 p0_2 p0_3 p1_0 p1_1 p1_2 p1_3 k (IntKind.wrap .i64 (t23 + 1)))) none) none) (some (Lp.go ()))
set_option maxRecDepth 100000 in
theorem charabancref19_Same_15.l0_ok (K : Nat) (M0 : Nat → Prop) (w0 : World) (pA0_0 : Option Addr) (pc0_0 : Nat) (pA0_3 : Option Addr) (pc0_3 : Nat) (pA1_0 : Option Addr) (pc1_0 : Nat) (pA1_3 : Option Addr) (pc1_3 : Nat) (p0_0 : List Int) (p0_1 : Int) (p0_2 : Int) (p0_3 : List (Int × Int)) (p1_0 : List Int) (p1_1 : Int) (p1_2 : Int) (p1_3 : List (Int × Int)) (b21 : Nat) (b22 : Nat) (R : Ending → World → Prop) (x : Lp Unit Unit) (hk0 : ∀ (w1 : World), x = Lp.go () → Holds M0 w0 w1 [] → RunsI F15 [.c 31] [] w1 R) (hk1 : ∀ (w1 : World), x = Lp.ret () → Holds M0 w0 w1 [] → R (.returned (.bool false)) w1) :
    ∀ (k : Nat) (t23 : Int) (w : World), charabancref19_Same_15.l0 K p0_0 p0_1 p0_2 p0_3 p1_0 p1_1 p1_2 p1_3 k t23 = some x → Holds M0 w0 w [box b21 31 [.slice pA0_0 p0_0.length pc0_0, .int .i64 p0_1, .int .i64 p0_2, .slice pA0_3 p0_3.length pc0_3], sl (Rp.int .u8) (.slice pA0_0 p0_0.length pc0_0) p0_0, sl (Rp.pair (Rp.int .i64) (Rp.int .u8)) (.slice pA0_3 p0_3.length pc0_3) p0_3, box b22 31 [.slice pA1_0 p1_0.length pc1_0, .int .i64 p1_1, .int .i64 p1_2, .slice pA1_3 p1_3.length pc1_3], sl (Rp.int .u8) (.slice pA1_0 p1_0.length pc1_0) p1_0, sl (Rp.pair (Rp.int .i64) (Rp.int .u8)) (.slice pA1_3 p1_3.length pc1_3) p1_3] → RunsI F15 [.c 15, .lp 15, .blk 0, .c 31] [(2, .pointer (some ⟨b21, 0, none⟩)), (3, .pointer (some ⟨b22, 0, none⟩)), (5, .int .i64 t23)] w R := by
  intro k
  induction k with
  | zero => intro t23 w h hH; exact absurd h (by simp [charabancref19_Same_15.l0])
  | succ k ih =>
    intro t23 w h hH
    rw [charabancref19_Same_15.l0.eq_2] at h
    refine RunsI.go 1 [.c 16, .c 21, .lp 15, .blk 0, .c 31] (by kernel_rfl) ?_
    refine RunsI.go 1 [.c 17, .c 18, .c 21, .lp 15, .blk 0, .c 31] (by kernel_rfl) ?_
    refine RunsI.region (by kernel_rfl) ?_
    refine RegI.pure 2 [2, 3, 5, 36, 37] [(2, .pointer (some ⟨b21, 0, none⟩)), (3, .pointer (some ⟨b22, 0, none⟩)), (5, .int .i64 t23), (36, .int .i64 t23), (37, .pointer (some ⟨b21, 3, none⟩))] (by kernel_rfl) ?_
    refine RegI.op (by kernel_rfl) (OpE.loadBox 38 0 29 b21 3 (.slice pA0_3 p0_3.length pc0_3) hH (by kernel_rfl) (by kernel_rfl) rfl (by kernel_rfl) ?_)
    refine RegI.pure 2 [2, 3, 5, 40] [(2, .pointer (some ⟨b21, 0, none⟩)), (3, .pointer (some ⟨b22, 0, none⟩)), (5, .int .i64 t23), (40, .bool (decide (t23 < (p0_3.length : Int))))] (by kernel_rfl) ?_
    refine RegI.done (by kernel_rfl) ?_
    rcases of_cond h with ⟨hc24, h⟩ | ⟨hc24, h⟩
    · skip
      refine RunsI.fix 40 true hc24 (by kernel_rfl) (by kernel_rfl) ?_
      refine RunsI.cond true 19 (by kernel_rfl) ?_
      refine RunsI.go 1 [.c 21, .lp 15, .blk 0, .c 31] (by kernel_rfl) ?_
      refine RunsI.go 3 [.c 24, .c 25, .blk 1, .c 30, .lp 15, .blk 0, .c 31] (by kernel_rfl) ?_
      refine RunsI.any 11 (by kernel_rfl) (by kernel_rfl) (by kernel_rfl) (Kp ([] : List Nat) (World.drew w)) ?_
      have h26 := hH.drew
      generalize World.drew w = w25 at h26 ⊢
      have hS27 := Kp.refl ([] : List Nat) w25
      refine AnyE.pure 0 43 (.pointer (some ⟨b21, 3, none⟩)) (by kernel_rfl) hS27 (fun _ => by kernel_rfl) ?_
      refine AnyE.loadBox 1 44 0 29 b21 3 (.slice pA0_3 p0_3.length pc0_3) [] h26 rfl (by kernel_rfl) hS27 rfl rfl (by kernel_rfl) (by kernel_rfl) ?_
      refine AnyE.pure 2 45 (.int .i64 t23) (by kernel_rfl) hS27 (fun _ => by kernel_rfl) ?_
      obtain ⟨hc29, h⟩ := of_cond0 h
      refine AnyE.idxSl 3 46 2 29 t23 h26 (by kernel_rfl) hS27 rfl (by kernel_rfl) (by kernel_rfl) hc29 ?_
      intro b30 o31 cs32 hk33 h34
      obtain ⟨_, _, rfl, rfl, rfl⟩ := hk33
      refine AnyE.loadCel 4 47 6 81 b30 o31 0 (.agg #[.int .i64 ((rdD p0_3 t23).1), .int .u8 ((rdD p0_3 t23).2)]) [] h34 rfl (by kernel_rfl) hS27 rfl rfl (by kernel_rfl) (by kernel_rfl) ?_
      refine AnyE.pure 5 48 (.pointer (some ⟨b22, 3, none⟩)) (by kernel_rfl) hS27 (fun _ => by kernel_rfl) ?_
      refine AnyE.loadBox 6 49 3 29 b22 3 (.slice pA1_3 p1_3.length pc1_3) [] h34 rfl (by kernel_rfl) hS27 rfl rfl (by kernel_rfl) (by kernel_rfl) ?_
      refine AnyE.pure 7 50 (.int .i64 t23) (by kernel_rfl) hS27 (fun _ => by kernel_rfl) ?_
      obtain ⟨hc35, h⟩ := of_cond0 h
      refine AnyE.idxSl 8 51 5 29 t23 h34 (by kernel_rfl) hS27 rfl (by kernel_rfl) (by kernel_rfl) hc35 ?_
      intro b36 o37 cs38 hk39 h40
      obtain ⟨_, _, rfl, rfl, rfl⟩ := hk39
      refine AnyE.loadCel 9 52 7 81 b36 o37 0 (.agg #[.int .i64 ((rdD p1_3 t23).1), .int .u8 ((rdD p1_3 t23).2)]) [] h40 rfl (by kernel_rfl) hS27 rfl rfl (by kernel_rfl) (by kernel_rfl) ?_
      refine AnyE.run 10 53 (.bool (!((((rdD p0_3 t23).1) == ((rdD p1_3 t23).1)) && ((((rdD p0_3 t23).2) == ((rdD p1_3 t23).2)) && true)))) (by kernel_rfl) hS27 (fun _ hk => run_eqS (neg := true) (t := 81) (x := .agg #[.int .i64 ((rdD p0_3 t23).1), .int .u8 ((rdD p0_3 t23).2)]) (y := .agg #[.int .i64 ((rdD p1_3 t23).1), .int .u8 ((rdD p1_3 t23).2)]) (b := ((((rdD p0_3 t23).1) == ((rdD p1_3 t23).1)) && ((((rdD p0_3 t23).2) == ((rdD p1_3 t23).2)) && true))) (by kernel_rfl) (by kernel_rfl) (by kernel_rfl) (by kernel_rfl)) ?_
      refine AnyE.done (by kernel_rfl) (fun w41 hu42 => ?_)
      have h43 := h40.call hu42
      refine RunsI.only [2, 3, 5, 53] [(2, .pointer (some ⟨b21, 0, none⟩)), (3, .pointer (some ⟨b22, 0, none⟩)), (5, .int .i64 t23), (53, .bool (!((((rdD p0_3 t23).1) == ((rdD p1_3 t23).1)) && ((((rdD p0_3 t23).2) == ((rdD p1_3 t23).2)) && true))))] (by kernel_rfl) (by kernel_rfl) ?_
      rcases of_cond h with ⟨hc44, h⟩ | ⟨hc44, h⟩
      · skip
        refine RunsI.fix 53 true hc44 (by kernel_rfl) (by kernel_rfl) ?_
        refine RunsI.cond true 26 (by kernel_rfl) ?_
        refine RunsI.go 1 [.c 27, .c 28, .blk 1, .c 30, .lp 15, .blk 0, .c 31] (by kernel_rfl) ?_
        refine RunsI.region (by kernel_rfl) ?_
        refine RegI.pure 1 [4] [(4, .bool false)] (by kernel_rfl) ?_
        refine RegI.done (by kernel_rfl) ?_
        refine RunsI.ret (.bool false) (by kernel_rfl) (by kernel_rfl) ?_
        exact hk1 w41 (Option.some.inj h).symm (h43.pick [] (by decide))
      · skip
        refine RunsI.fix 53 false hc44 (by kernel_rfl) (by kernel_rfl) ?_
        refine RunsI.cond false 29 (by kernel_rfl) ?_
        refine RunsI.go 1 [.blk 1, .c 30, .lp 15, .blk 0, .c 31] (by kernel_rfl) ?_
        refine RunsI.go 1 [.c 30, .lp 15, .blk 0, .c 31] (by kernel_rfl) ?_
        refine RunsI.region (by kernel_rfl) ?_
        refine RegI.pure 3 [2, 3, 5] [(2, .pointer (some ⟨b21, 0, none⟩)), (3, .pointer (some ⟨b22, 0, none⟩)), (5, .int .i64 (IntKind.wrap .i64 (t23 + 1)))] (by kernel_rfl) ?_
        refine RegI.done (by kernel_rfl) ?_
        refine RunsI.go 1 [.c 15, .lp 15, .blk 0, .c 31] (by kernel_rfl) ?_
        refine RunsI.only [2, 3, 5] [(2, .pointer (some ⟨b21, 0, none⟩)), (3, .pointer (some ⟨b22, 0, none⟩)), (5, .int .i64 (IntKind.wrap .i64 (t23 + 1)))] (by kernel_rfl) (by kernel_rfl) ?_
        exact ih (IntKind.wrap .i64 (t23 + 1)) w41 h (h43.pick [0, 1, 2, 3, 4, 5] (by decide))
    · skip
      refine RunsI.fix 40 false hc24 (by kernel_rfl) (by kernel_rfl) ?_
      refine RunsI.cond false 20 (by kernel_rfl) ?_
      refine RunsI.go 1 [.c 31] (by kernel_rfl) ?_
      refine RunsI.only [] [] (by kernel_rfl) (by kernel_rfl) ?_
      exact hk0 w (Option.some.inj h).symm (hH.pick [] (by decide))
def charabancref19_Same_15.f (K : Nat) (p0_0 : List Int) (p0_1 : Int) (p0_2 : Int) (p0_3 : List (Int × Int)) (p1_0 : List Int) (p1_1 : Int) (p1_2 : Int) (p1_3 : List (Int × Int)) : Option Bool := Let (fun (t14 : Bool) => cond t14 (some false) ((charabancref19_Same_15.l0 K p0_0 p0_1 p0_2 p0_3 p1_0 p1_1 p1_2 p1_3 K 0).bind (fun x45 => Lp.elim x45 (fun _ => some false) (fun _ => some true)))) (fun j17 => cond (!((ByteArray.toList (strOf p0_0)) == (ByteArray.toList (strOf p1_0)))) (j17 true) (cond (p0_1 != p1_1) (j17 true) (cond (p0_2 != p1_2) (j17 true) (j17 ((p0_3.length : Int) != (p1_3.length : Int))))))
set_option maxRecDepth 100000 in
theorem charabancref19_Same_15_ok (K : Nat) (M0 : Nat → Prop) (w0 : World) (pA0_0 : Option Addr) (pc0_0 : Nat) (pA0_3 : Option Addr) (pc0_3 : Nat) (pA1_0 : Option Addr) (pc1_0 : Nat) (pA1_3 : Option Addr) (pc1_3 : Nat) (p0_0 : List Int) (p0_1 : Int) (p0_2 : Int) (p0_3 : List (Int × Int)) (p1_0 : List Int) (p1_1 : Int) (p1_2 : Int) (p1_3 : List (Int × Int)) (ho : ∀ b, M0 b → b < w0.heap.size) (hs0_0 : Sl (Rp.int .u8) w0 M0 (.slice pA0_0 p0_0.length pc0_0) p0_0) (hs0_3 : Sl (Rp.pair (Rp.int .i64) (Rp.int .u8)) w0 M0 (.slice pA0_3 p0_3.length pc0_3) p0_3) (hs1_0 : Sl (Rp.int .u8) w0 M0 (.slice pA1_0 p1_0.length pc1_0) p1_0) (hs1_3 : Sl (Rp.pair (Rp.int .i64) (Rp.int .u8)) w0 M0 (.slice pA1_3 p1_3.length pc1_3) p1_3) {r : Bool} (h : charabancref19_Same_15.f K p0_0 p0_1 p0_2 p0_3 p1_0 p1_1 p1_2 p1_3 = some r) :
    Calls Tryd.prog 15 #[.agg #[.slice pA0_0 p0_0.length pc0_0, .int .i64 p0_1, .int .i64 p0_2, .slice pA0_3 p0_3.length pc0_3], .agg #[.slice pA1_0 p1_0.length pc1_0, .int .i64 p1_1, .int .i64 p1_2, .slice pA1_3 p1_3.length pc1_3]] w0 (charabancref19_Same_15.post M0 w0 r) := by
  unfold charabancref19_Same_15.f at h
  have h0 : Holds M0 w0 w0 [] := Holds.start ho
  have h00_0 := h0.addSl (Rp.int .u8) (.slice pA0_0 p0_0.length pc0_0) p0_0 (hs0_0.mono (fun _ _ hm => hm.elim id (fun hm => absurd hm (by simp [mines, sl]))))
  have h00_3 := h00_0.addSl (Rp.pair (Rp.int .i64) (Rp.int .u8)) (.slice pA0_3 p0_3.length pc0_3) p0_3 (hs0_3.mono (fun _ _ hm => hm.elim id (fun hm => absurd hm (by simp [mines, sl]))))
  have h01_0 := h00_3.addSl (Rp.int .u8) (.slice pA1_0 p1_0.length pc1_0) p1_0 (hs1_0.mono (fun _ _ hm => hm.elim id (fun hm => absurd hm (by simp [mines, sl]))))
  have h01_3 := h01_0.addSl (Rp.pair (Rp.int .i64) (Rp.int .u8)) (.slice pA1_3 p1_3.length pc1_3) p1_3 (hs1_3.mono (fun _ _ hm => hm.elim id (fun hm => absurd hm (by simp [mines, sl]))))
  have h0 : Holds M0 w0 w0 [sl (Rp.int .u8) (.slice pA0_0 p0_0.length pc0_0) p0_0, sl (Rp.pair (Rp.int .i64) (Rp.int .u8)) (.slice pA0_3 p0_3.length pc0_3) p0_3, sl (Rp.int .u8) (.slice pA1_0 p1_0.length pc1_0) p1_0, sl (Rp.pair (Rp.int .i64) (Rp.int .u8)) (.slice pA1_3 p1_3.length pc1_3) p1_3] := h01_3
  refine calls_of F15 rfl [.agg #[.slice pA0_0 p0_0.length pc0_0, .int .i64 p0_1, .int .i64 p0_2, .slice pA0_3 p0_3.length pc0_3], .agg #[.slice pA1_0 p1_0.length pc1_0, .int .i64 p1_1, .int .i64 p1_2, .slice pA1_3 p1_3.length pc1_3]] (by kernel_rfl) ?_
  refine RunsI.go 1 [.c 1, .c 2] (by kernel_rfl) ?_
  refine RunsI.region (by kernel_rfl) ?_
  refine RegI.op (by kernel_rfl) (OpE.box 2 31 [.slice pA0_0 p0_0.length pc0_0, .int .i64 p0_1, .int .i64 p0_2, .slice pA0_3 p0_3.length pc0_3] h0 (by kernel_rfl) (by kernel_rfl) ?_)
  intro w1 b2 h3 hb4 hn5
  refine RegI.op (by kernel_rfl) (OpE.box 3 31 [.slice pA1_0 p1_0.length pc1_0, .int .i64 p1_1, .int .i64 p1_2, .slice pA1_3 p1_3.length pc1_3] h3 (by kernel_rfl) (by kernel_rfl) ?_)
  intro w6 b7 h8 hb9 hn10
  refine RegI.pure 1 [2, 3] [(2, .pointer (some ⟨b2, 0, none⟩)), (3, .pointer (some ⟨b7, 0, none⟩))] (by kernel_rfl) ?_
  refine RegI.done (by kernel_rfl) ?_
  refine RunsI.go 2 [.c 4, .c 5, .c 10] (by kernel_rfl) ?_
  refine RunsI.region (by kernel_rfl) ?_
  refine RegI.pure 1 [2, 3, 6] [(2, .pointer (some ⟨b2, 0, none⟩)), (3, .pointer (some ⟨b7, 0, none⟩)), (6, .pointer (some ⟨b2, 0, none⟩))] (by kernel_rfl) ?_
  refine RegI.op (by kernel_rfl) (OpE.loadBox 7 4 22 b2 0 (.slice pA0_0 p0_0.length pc0_0) h8 (by kernel_rfl) (by kernel_rfl) rfl (by kernel_rfl) ?_)
  refine RegI.op (by kernel_rfl) (OpE.run 8 (by kernel_rfl) (run_toStr (s := 22) (d := 9) (v := .slice pA0_0 p0_0.length pc0_0) (by kernel_rfl) (by kernel_rfl) (h8.rdSl 0 rfl)) ?_)
  refine RegI.pure 1 [2, 3, 8, 9] [(2, .pointer (some ⟨b2, 0, none⟩)), (3, .pointer (some ⟨b7, 0, none⟩)), (8, .string (strOf p0_0)), (9, .pointer (some ⟨b7, 0, none⟩))] (by kernel_rfl) ?_
  refine RegI.op (by kernel_rfl) (OpE.loadBox 10 5 22 b7 0 (.slice pA1_0 p1_0.length pc1_0) h8 (by kernel_rfl) (by kernel_rfl) rfl (by kernel_rfl) ?_)
  refine RegI.op (by kernel_rfl) (OpE.run 11 (by kernel_rfl) (run_toStr (s := 22) (d := 9) (v := .slice pA1_0 p1_0.length pc1_0) (by kernel_rfl) (by kernel_rfl) (h8.rdSl 2 rfl)) ?_)
  refine RegI.pure 2 [2, 3, 13] [(2, .pointer (some ⟨b2, 0, none⟩)), (3, .pointer (some ⟨b7, 0, none⟩)), (13, .bool (!((ByteArray.toList (strOf p0_0)) == (ByteArray.toList (strOf p1_0)))))] (by kernel_rfl) ?_
  obtain ⟨j17, hJ18, h⟩ := of_let h
  have hj19 : ∀ (t14 : Bool) (w16 : World), j17 t14 = some r → Holds M0 w0 w16 [box b2 31 [.slice pA0_0 p0_0.length pc0_0, .int .i64 p0_1, .int .i64 p0_2, .slice pA0_3 p0_3.length pc0_3], sl (Rp.int .u8) (.slice pA0_0 p0_0.length pc0_0) p0_0, sl (Rp.pair (Rp.int .i64) (Rp.int .u8)) (.slice pA0_3 p0_3.length pc0_3) p0_3, box b7 31 [.slice pA1_0 p1_0.length pc1_0, .int .i64 p1_1, .int .i64 p1_2, .slice pA1_3 p1_3.length pc1_3], sl (Rp.int .u8) (.slice pA1_0 p1_0.length pc1_0) p1_0, sl (Rp.pair (Rp.int .i64) (Rp.int .u8)) (.slice pA1_3 p1_3.length pc1_3) p1_3] → RegI F15 4 [.c 5, .c 10] 30 [(2, .pointer (some ⟨b2, 0, none⟩)), (3, .pointer (some ⟨b7, 0, none⟩)), (35, .bool t14)] w16 (charabancref19_Same_15.post M0 w0 r) := by
    intro t14 w16 h h15
    rw [hJ18] at h
    clear hJ18
    dsimp only at h
    refine RegI.done (by kernel_rfl) ?_
    rcases of_cond h with ⟨hc20, h⟩ | ⟨hc20, h⟩
    · skip
      refine RunsI.fix 35 true hc20 (by kernel_rfl) (by kernel_rfl) ?_
      refine RunsI.cond true 6 (by kernel_rfl) ?_
      refine RunsI.go 1 [.c 7, .c 8, .c 10] (by kernel_rfl) ?_
      refine RunsI.region (by kernel_rfl) ?_
      refine RegI.pure 1 [4] [(4, .bool false)] (by kernel_rfl) ?_
      refine RegI.done (by kernel_rfl) ?_
      refine RunsI.ret (.bool false) (by kernel_rfl) (by kernel_rfl) ?_
      obtain rfl := Option.some.inj h
      exact ⟨rfl, h15.below⟩
    · skip
      refine RunsI.fix 35 false hc20 (by kernel_rfl) (by kernel_rfl) ?_
      refine RunsI.cond false 9 (by kernel_rfl) ?_
      refine RunsI.go 1 [.c 10] (by kernel_rfl) ?_
      refine RunsI.go 2 [.c 12, .c 13, .c 31] (by kernel_rfl) ?_
      refine RunsI.region (by kernel_rfl) ?_
      refine RegI.pure 1 [2, 3, 5] [(2, .pointer (some ⟨b2, 0, none⟩)), (3, .pointer (some ⟨b7, 0, none⟩)), (5, .int .i64 0)] (by kernel_rfl) ?_
      refine RegI.done (by kernel_rfl) ?_
      refine RunsI.go 2 [.c 15, .lp 15, .blk 0, .c 31] (by kernel_rfl) ?_
      obtain ⟨x45, hx46, h⟩ := of_bind h
      refine RunsI.only [2, 3, 5] [(2, .pointer (some ⟨b2, 0, none⟩)), (3, .pointer (some ⟨b7, 0, none⟩)), (5, .int .i64 0)] (by kernel_rfl) (by kernel_rfl) ?_
      refine charabancref19_Same_15.l0_ok K M0 w0 pA0_0 pc0_0 pA0_3 pc0_3 pA1_0 pc1_0 pA1_3 pc1_3 p0_0 p0_1 p0_2 p0_3 p1_0 p1_1 p1_2 p1_3 b2 b7 _ x45 ?_ ?_ K 0 w16 hx46 (h15.pick [0, 1, 2, 3, 4, 5] (by decide))
      · intro w48 hq51 h47
        (try rw [hq51] at h)
        dsimp only [Lp.elim] at h
        refine RunsI.go 1 [.c 32, .c 33] (by kernel_rfl) ?_
        refine RunsI.region (by kernel_rfl) ?_
        refine RegI.pure 1 [4] [(4, .bool true)] (by kernel_rfl) ?_
        refine RegI.done (by kernel_rfl) ?_
        refine RunsI.ret (.bool true) (by kernel_rfl) (by kernel_rfl) ?_
        obtain rfl := Option.some.inj h
        exact ⟨rfl, h47.below⟩
      · intro w50 hq52 h49
        (try rw [hq52] at h)
        dsimp only [Lp.elim] at h
        obtain rfl := Option.some.inj h
        exact ⟨rfl, h49.below⟩
  clear hJ18
  rcases of_cond h with ⟨hc11, h⟩ | ⟨hc11, h⟩
  · skip
    refine RegI.fix 13 true hc11 (by kernel_rfl) (by kernel_rfl) ?_
    refine RegI.pure 22 [2, 3, 35] [(2, .pointer (some ⟨b2, 0, none⟩)), (3, .pointer (some ⟨b7, 0, none⟩)), (35, .bool true)] (by kernel_rfl) ?_
    refine RegI.only [2, 3, 35] [(2, .pointer (some ⟨b2, 0, none⟩)), (3, .pointer (some ⟨b7, 0, none⟩)), (35, .bool true)] (by kernel_rfl) (by kernel_rfl) ?_
    exact hj19 true w6 h (h8.pick [4, 0, 1, 5, 2, 3] (by decide))
  · skip
    refine RegI.fix 13 false hc11 (by kernel_rfl) (by kernel_rfl) ?_
    refine RegI.pure 1 [2, 3, 13, 14] [(2, .pointer (some ⟨b2, 0, none⟩)), (3, .pointer (some ⟨b7, 0, none⟩)), (13, .bool false), (14, .pointer (some ⟨b2, 1, none⟩))] (by kernel_rfl) ?_
    refine RegI.op (by kernel_rfl) (OpE.loadBox 15 4 3 b2 1 (.int .i64 p0_1) h8 (by kernel_rfl) (by kernel_rfl) rfl (by kernel_rfl) ?_)
    refine RegI.pure 1 [2, 3, 13, 15, 16] [(2, .pointer (some ⟨b2, 0, none⟩)), (3, .pointer (some ⟨b7, 0, none⟩)), (13, .bool false), (15, .int .i64 p0_1), (16, .pointer (some ⟨b7, 1, none⟩))] (by kernel_rfl) ?_
    refine RegI.op (by kernel_rfl) (OpE.loadBox 17 5 3 b7 1 (.int .i64 p1_1) h8 (by kernel_rfl) (by kernel_rfl) rfl (by kernel_rfl) ?_)
    refine RegI.pure 3 [2, 3, 20] [(2, .pointer (some ⟨b2, 0, none⟩)), (3, .pointer (some ⟨b7, 0, none⟩)), (20, .bool (p0_1 != p1_1))] (by kernel_rfl) ?_
    rcases of_cond h with ⟨hc12, h⟩ | ⟨hc12, h⟩
    · skip
      refine RegI.fix 20 true hc12 (by kernel_rfl) (by kernel_rfl) ?_
      refine RegI.pure 15 [2, 3, 35] [(2, .pointer (some ⟨b2, 0, none⟩)), (3, .pointer (some ⟨b7, 0, none⟩)), (35, .bool true)] (by kernel_rfl) ?_
      refine RegI.only [2, 3, 35] [(2, .pointer (some ⟨b2, 0, none⟩)), (3, .pointer (some ⟨b7, 0, none⟩)), (35, .bool true)] (by kernel_rfl) (by kernel_rfl) ?_
      exact hj19 true w6 h (h8.pick [4, 0, 1, 5, 2, 3] (by decide))
    · skip
      refine RegI.fix 20 false hc12 (by kernel_rfl) (by kernel_rfl) ?_
      refine RegI.pure 1 [2, 3, 20, 21] [(2, .pointer (some ⟨b2, 0, none⟩)), (3, .pointer (some ⟨b7, 0, none⟩)), (20, .bool false), (21, .pointer (some ⟨b2, 2, none⟩))] (by kernel_rfl) ?_
      refine RegI.op (by kernel_rfl) (OpE.loadBox 22 4 3 b2 2 (.int .i64 p0_2) h8 (by kernel_rfl) (by kernel_rfl) rfl (by kernel_rfl) ?_)
      refine RegI.pure 1 [2, 3, 20, 22, 23] [(2, .pointer (some ⟨b2, 0, none⟩)), (3, .pointer (some ⟨b7, 0, none⟩)), (20, .bool false), (22, .int .i64 p0_2), (23, .pointer (some ⟨b7, 2, none⟩))] (by kernel_rfl) ?_
      refine RegI.op (by kernel_rfl) (OpE.loadBox 24 5 3 b7 2 (.int .i64 p1_2) h8 (by kernel_rfl) (by kernel_rfl) rfl (by kernel_rfl) ?_)
      refine RegI.pure 3 [2, 3, 27] [(2, .pointer (some ⟨b2, 0, none⟩)), (3, .pointer (some ⟨b7, 0, none⟩)), (27, .bool (p0_2 != p1_2))] (by kernel_rfl) ?_
      rcases of_cond h with ⟨hc13, h⟩ | ⟨hc13, h⟩
      · skip
        refine RegI.fix 27 true hc13 (by kernel_rfl) (by kernel_rfl) ?_
        refine RegI.pure 8 [2, 3, 35] [(2, .pointer (some ⟨b2, 0, none⟩)), (3, .pointer (some ⟨b7, 0, none⟩)), (35, .bool true)] (by kernel_rfl) ?_
        refine RegI.only [2, 3, 35] [(2, .pointer (some ⟨b2, 0, none⟩)), (3, .pointer (some ⟨b7, 0, none⟩)), (35, .bool true)] (by kernel_rfl) (by kernel_rfl) ?_
        exact hj19 true w6 h (h8.pick [4, 0, 1, 5, 2, 3] (by decide))
      · skip
        refine RegI.fix 27 false hc13 (by kernel_rfl) (by kernel_rfl) ?_
        refine RegI.pure 1 [2, 3, 27, 28] [(2, .pointer (some ⟨b2, 0, none⟩)), (3, .pointer (some ⟨b7, 0, none⟩)), (27, .bool false), (28, .pointer (some ⟨b2, 3, none⟩))] (by kernel_rfl) ?_
        refine RegI.op (by kernel_rfl) (OpE.loadBox 29 4 29 b2 3 (.slice pA0_3 p0_3.length pc0_3) h8 (by kernel_rfl) (by kernel_rfl) rfl (by kernel_rfl) ?_)
        refine RegI.pure 2 [2, 3, 27, 30, 31] [(2, .pointer (some ⟨b2, 0, none⟩)), (3, .pointer (some ⟨b7, 0, none⟩)), (27, .bool false), (30, .int .i64 (p0_3.length : Int)), (31, .pointer (some ⟨b7, 3, none⟩))] (by kernel_rfl) ?_
        refine RegI.op (by kernel_rfl) (OpE.loadBox 32 5 29 b7 3 (.slice pA1_3 p1_3.length pc1_3) h8 (by kernel_rfl) (by kernel_rfl) rfl (by kernel_rfl) ?_)
        refine RegI.pure 3 [2, 3, 35] [(2, .pointer (some ⟨b2, 0, none⟩)), (3, .pointer (some ⟨b7, 0, none⟩)), (35, .bool ((p0_3.length : Int) != (p1_3.length : Int)))] (by kernel_rfl) ?_
        refine RegI.only [2, 3, 35] [(2, .pointer (some ⟨b2, 0, none⟩)), (3, .pointer (some ⟨b7, 0, none⟩)), (35, .bool ((p0_3.length : Int) != (p1_3.length : Int)))] (by kernel_rfl) (by kernel_rfl) ?_
        exact hj19 ((p0_3.length : Int) != (p1_3.length : Int)) w6 h (h8.pick [4, 0, 1, 5, 2, 3] (by decide))
end
end Go.Proofs.YtmebkghfjamffaaDoor.His
