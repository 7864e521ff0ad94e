/- Functions of the program as plain Lean functions, each with the proof that the call comes to it; written by wip/eng.py. -/
import Derived.Test.YtmebkghfjamffaaDoorHis
set_option linter.unusedVariables false
set_option linter.unusedSimpArgs false
set_option maxHeartbeats 4000000
namespace Go.Proofs.YtmebkghfjamffaaDoor.His
open Go.RowKit Go.Eng
/-! ### charabanc/history.Behind (function 16) -/
section
def history_Behind_16.post (M0 : Nat → Prop) (w0 : World) (r : (List Int) × Int × Int × (List (Int × Int))) : Ending → World → Prop := fun e w => ∃ (A1 : Option Addr) (c1 : Nat) (A4 : Option Addr) (c4 : Nat), e = .returned (.agg #[.slice A1 r.1.length c1, .int .i64 r.2.1, .int .i64 r.2.2.1, .slice A4 r.2.2.2.length c4]) ∧ Holds M0 w0 w [sl (Rp.int .u8) (.slice A1 r.1.length c1) r.1, sl (Rp.pair (Rp.int .i64) (Rp.int .u8)) (.slice A4 r.2.2.2.length c4) r.2.2.2]
def history_Behind_16.l0 (K : Nat) (p0_0 : List Int) (p0_1 : Int) (p0_2 : Int) (p0_3 : List (Int × Int)) (p1 : List (Int × Int × Int × Int × Int × Int)) : Nat → (List Int) → Int → Int → (List (Int × Int)) → Int → Option ((List Int) × Int × Int × (List (Int × Int)))
  | 0, _, _, _, _, _ => none
  | k + 1, t14, t15, t16, t19, t21 => cond (decide (t21 < (p1.length : Int))) (cond (inR t21 p1.length) ((history_step_47.f K t14 t15 t16 t19 ((rdD p1 t21).1) ((rdD p1 t21).2.1) ((rdD p1 t21).2.2.1) ((rdD p1 t21).2.2.2.1) ((rdD p1 t21).2.2.2.2.1) ((rdD p1 t21).2.2.2.2.2)).bind fun yt41 => history_Behind_16.l0 K p0_0 p0_1 p0_2 p0_3 p1 k yt41.1 yt41.2.1 yt41.2.2.1 yt41.2.2.2 (IntKind.wrap .i64 (t21 + 1))) none) (some (t14, t15, t16, t19))
set_option maxRecDepth 100000 in
theorem history_Behind_16.l0_ok (K : Nat) (M0 : Nat → Prop) (w0 : World) (pA0_0 : Option Addr) (pc0_0 : Nat) (pA0_3 : Option Addr) (pc0_3 : Nat) (pA1 : Option Addr) (pc1 : Nat) (p0_0 : List Int) (p0_1 : Int) (p0_2 : Int) (p0_3 : List (Int × Int)) (p1 : List (Int × Int × Int × Int × Int × Int)) (b11 : Nat) (b20 : Nat) (R : Ending → World → Prop) (x : (List Int) × Int × Int × (List (Int × Int))) (hk0 : ∀ (t57 : List Int) (t58 : Int) (t59 : Int) (t62 : List (Int × Int)) (A55 : Option Addr) (c56 : Nat) (A60 : Option Addr) (c61 : Nat) (w1 : World), x = (t57, t58, t59, t62) → Holds M0 w0 w1 [box b11 25 [.slice A55 t57.length c56, .int .i64 t58, .int .i64 t59, .slice A60 t62.length c61], sl (Rp.int .u8) (.slice A55 t57.length c56) t57, sl (Rp.pair (Rp.int .i64) (Rp.int .u8)) (.slice A60 t62.length c61) t62, box b20 25 [.slice none 0 0, .int .i64 0, .int .i64 0, .slice none 0 0], gl 2 (tab_2.flatMap en_2)] → RunsI F16 [.c 19] [(2, .pointer (some ⟨b11, 0, none⟩)), (4, .pointer (some ⟨b20, 0, none⟩))] w1 R) :
    ∀ (k : Nat) (t14 : List Int) (t15 : Int) (t16 : Int) (t19 : List (Int × Int)) (t21 : Int) (A12 : Option Addr) (c13 : Nat) (A17 : Option Addr) (c18 : Nat) (w : World), history_Behind_16.l0 K p0_0 p0_1 p0_2 p0_3 p1 k t14 t15 t16 t19 t21 = some x → Holds M0 w0 w [box b11 25 [.slice A12 t14.length c13, .int .i64 t15, .int .i64 t16, .slice A17 t19.length c18], sl (Rp.int .u8) (.slice A12 t14.length c13) t14, sl (Rp.pair (Rp.int .i64) (Rp.int .u8)) (.slice A17 t19.length c18) t19, box b20 25 [.slice none 0 0, .int .i64 0, .int .i64 0, .slice none 0 0], sl (Rp.pair (Rp.int .i64) (Rp.pair (Rp.int .i64) (Rp.pair (Rp.int .i64) (Rp.pair (Rp.int .u16) (Rp.pair (Rp.int .i64) (Rp.int .u8)))))) (.slice pA1 p1.length pc1) p1, gl 2 (tab_2.flatMap en_2)] → RunsI F16 [.c 7, .lp 7, .blk 0, .c 19] [(2, .pointer (some ⟨b11, 0, none⟩)), (4, .pointer (some ⟨b20, 0, none⟩)), (7, .slice pA1 p1.length pc1), (8, .int .i64 (p1.length : Int)), (9, .int .i64 t21)] w R := by
  intro k
  induction k with
  | zero => intro t14 t15 t16 t19 t21 A12 c13 A17 c18 w h hH; exact absurd h (by simp [history_Behind_16.l0])
  | succ k ih =>
    intro t14 t15 t16 t19 t21 A12 c13 A17 c18 w h hH
    rw [history_Behind_16.l0.eq_2] at h
    refine RunsI.go 1 [.c 8, .c 9, .lp 7, .blk 0, .c 19] (by kernel_rfl) ?_
    refine RunsI.region (by kernel_rfl) ?_
    refine RegI.pure 1 [2, 4, 7, 8, 9, 10] [(2, .pointer (some ⟨b11, 0, none⟩)), (4, .pointer (some ⟨b20, 0, none⟩)), (7, .slice pA1 p1.length pc1), (8, .int .i64 (p1.length : Int)), (9, .int .i64 t21), (10, .bool (decide (t21 < (p1.length : Int))))] (by kernel_rfl) ?_
    refine RegI.done (by kernel_rfl) ?_
    refine RunsI.go 1 [.c 10, .c 13, .lp 7, .blk 0, .c 19] (by kernel_rfl) ?_
    rcases of_cond h with ⟨hc22, h⟩ | ⟨hc22, h⟩
    · skip
      refine RunsI.fix 10 true hc22 (by kernel_rfl) (by kernel_rfl) ?_
      refine RunsI.cond true 11 (by kernel_rfl) ?_
      refine RunsI.go 1 [.c 13, .lp 7, .blk 0, .c 19] (by kernel_rfl) ?_
      refine RunsI.go 3 [.c 16, .c 17, .blk 1, .c 18, .lp 7, .blk 0, .c 19] (by kernel_rfl) ?_
      refine RunsI.region (by kernel_rfl) ?_
      obtain ⟨hc23, h⟩ := of_cond0 h
      refine RegI.op (by kernel_rfl) (OpE.idxSl 11 4 26 t21 hH (by kernel_rfl) rfl (by kernel_rfl) (by kernel_rfl) hc23 ?_)
      intro b24 o25 cs26 hk27 h28
      obtain ⟨_, _, rfl, rfl, ⟨_, _, rfl, rfl, ⟨_, _, rfl, rfl, ⟨_, _, rfl, rfl, ⟨_, _, rfl, rfl, rfl⟩⟩⟩⟩⟩ := hk27
      refine RegI.op (by kernel_rfl) (OpE.loadCel 12 6 54 b24 o25 0 (.agg #[.int .i64 ((rdD p1 t21).1), .int .i64 ((rdD p1 t21).2.1), .int .i64 ((rdD p1 t21).2.2.1), .int .u16 ((rdD p1 t21).2.2.2.1), .int .i64 ((rdD p1 t21).2.2.2.2.1), .int .u8 ((rdD p1 t21).2.2.2.2.2)]) h28 (by kernel_rfl) (by kernel_rfl) rfl (by kernel_rfl) ?_)
      refine RegI.op (by kernel_rfl) (OpE.box 6 54 [.int .i64 0, .int .i64 0, .int .i64 0, .int .u16 0, .int .i64 0, .int .u8 0] h28 (by kernel_rfl) (by kernel_rfl) ?_)
      intro w29 b30 h31 hb32 hn33
      refine RegI.op (by kernel_rfl) (OpE.storeBox 7 54 b30 0 (.agg #[.int .i64 ((rdD p1 t21).1), .int .i64 ((rdD p1 t21).2.1), .int .i64 ((rdD p1 t21).2.2.1), .int .u16 ((rdD p1 t21).2.2.2.1), .int .i64 ((rdD p1 t21).2.2.2.2.1), .int .u8 ((rdD p1 t21).2.2.2.2.2)]) [.int .i64 ((rdD p1 t21).1), .int .i64 ((rdD p1 t21).2.1), .int .i64 ((rdD p1 t21).2.2.1), .int .u16 ((rdD p1 t21).2.2.2.1), .int .i64 ((rdD p1 t21).2.2.2.2.1), .int .u8 ((rdD p1 t21).2.2.2.2.2)] h31 (by kernel_rfl) (by kernel_rfl) rfl (by kernel_rfl) (by kernel_rfl) (by kernel_rfl) ?_)
      intro w34 h35 hk36
      refine RegI.done (by kernel_rfl) ?_
      refine RunsI.region (by kernel_rfl) ?_
      refine RegI.op (by kernel_rfl) (OpE.loadBox 13 0 25 b11 0 (.agg #[.slice A12 t14.length c13, .int .i64 t15, .int .i64 t16, .slice A17 t19.length c18]) h35 (by kernel_rfl) (by kernel_rfl) rfl (by kernel_rfl) ?_)
      refine RegI.op (by kernel_rfl) (OpE.loadBox 14 7 54 b30 0 (.agg #[.int .i64 ((rdD p1 t21).1), .int .i64 ((rdD p1 t21).2.1), .int .i64 ((rdD p1 t21).2.2.1), .int .u16 ((rdD p1 t21).2.2.2.1), .int .i64 ((rdD p1 t21).2.2.2.2.1), .int .u8 ((rdD p1 t21).2.2.2.2.2)]) h35 (by kernel_rfl) (by kernel_rfl) rfl (by kernel_rfl) ?_)
      obtain ⟨⟨t41, t45, t46, t47⟩, hg40, h⟩ := of_bind h
      dsimp only at h
      refine RegI.op (by kernel_rfl) (OpE.call 15 (by kernel_rfl) 47 #[.agg #[.slice A12 t14.length c13, .int .i64 t15, .int .i64 t16, .slice A17 t19.length c18], .agg #[.int .i64 ((rdD p1 t21).1), .int .i64 ((rdD p1 t21).2.1), .int .i64 ((rdD p1 t21).2.2.1), .int .u16 ((rdD p1 t21).2.2.2.1), .int .i64 ((rdD p1 t21).2.2.2.2.1), .int .u8 ((rdD p1 t21).2.2.2.2.2)]] (by kernel_rfl) ((history_step_47_ok K _ w34  A12 c13 A17 c18 t14 t15 t16 t19 ((rdD p1 t21).1) ((rdD p1 t21).2.1) ((rdD p1 t21).2.2.1) ((rdD p1 t21).2.2.2.1) ((rdD p1 t21).2.2.2.2.1) ((rdD p1 t21).2.2.2.2.2) h35.old' (h35.get 1 rfl) (h35.get 2 rfl) (h35.get 5 rfl) hg40).mono ?_))
      rintro _ w37 ⟨A42, c43, A48, c49, rfl, hr51⟩
      refine ⟨_, rfl, ?_⟩
      have hb38 := hr51.below
      have h39 := h35.join hr51
      refine RegI.op (by kernel_rfl) (OpE.storeBox 0 25 b11 0 (.agg #[.slice A42 t41.length c43, .int .i64 t45, .int .i64 t46, .slice A48 t47.length c49]) [.slice A42 t41.length c43, .int .i64 t45, .int .i64 t46, .slice A48 t47.length c49] h39 (by kernel_rfl) (by kernel_rfl) rfl (by kernel_rfl) (by kernel_rfl) (by kernel_rfl) ?_)
      intro w52 h53 hk54
      refine RegI.done (by kernel_rfl) ?_
      refine RunsI.go 1 [.c 18, .lp 7, .blk 0, .c 19] (by kernel_rfl) ?_
      refine RunsI.region (by kernel_rfl) ?_
      refine RegI.pure 2 [2, 4, 7, 8, 9] [(2, .pointer (some ⟨b11, 0, none⟩)), (4, .pointer (some ⟨b20, 0, none⟩)), (7, .slice pA1 p1.length pc1), (8, .int .i64 (p1.length : Int)), (9, .int .i64 (IntKind.wrap .i64 (t21 + 1)))] (by kernel_rfl) ?_
      refine RegI.done (by kernel_rfl) ?_
      refine RunsI.go 1 [.c 7, .lp 7, .blk 0, .c 19] (by kernel_rfl) ?_
      refine RunsI.only [2, 4, 7, 8, 9] [(2, .pointer (some ⟨b11, 0, none⟩)), (4, .pointer (some ⟨b20, 0, none⟩)), (7, .slice pA1 p1.length pc1), (8, .int .i64 (p1.length : Int)), (9, .int .i64 (IntKind.wrap .i64 (t21 + 1)))] (by kernel_rfl) (by kernel_rfl) ?_
      exact ih t41 t45 t46 t47 (IntKind.wrap .i64 (t21 + 1)) A42 c43 A48 c49 w52 h (h53.pick [0, 8, 9, 3, 4, 5] (by decide))
    · skip
      refine RunsI.fix 10 false hc22 (by kernel_rfl) (by kernel_rfl) ?_
      refine RunsI.cond false 12 (by kernel_rfl) ?_
      refine RunsI.go 1 [.c 19] (by kernel_rfl) ?_
      refine RunsI.only [2, 4] [(2, .pointer (some ⟨b11, 0, none⟩)), (4, .pointer (some ⟨b20, 0, none⟩))] (by kernel_rfl) (by kernel_rfl) ?_
      exact hk0 t14 t15 t16 t19 A12 c13 A17 c18 w (Option.some.inj h).symm (hH.pick [0, 1, 2, 3, 5] (by decide))
def history_Behind_16.f (K : Nat) (p0_0 : List Int) (p0_1 : Int) (p0_2 : Int) (p0_3 : List (Int × Int)) (p1 : List (Int × Int × Int × Int × Int × Int)) : Option ((List Int) × Int × Int × (List (Int × Int))) := (history_Behind_16.l0 K p0_0 p0_1 p0_2 p0_3 p1 K p0_0 p0_1 p0_2 p0_3 0).bind (fun yx63 => some (yx63.1, yx63.2.1, yx63.2.2.1, yx63.2.2.2))
set_option maxRecDepth 100000 in
theorem history_Behind_16_ok (K : Nat) (M0 : Nat → Prop) (w0 : World) (pA0_0 : Option Addr) (pc0_0 : Nat) (pA0_3 : Option Addr) (pc0_3 : Nat) (pA1 : Option Addr) (pc1 : Nat) (p0_0 : List Int) (p0_1 : Int) (p0_2 : Int) (p0_3 : List (Int × Int)) (p1 : List (Int × Int × Int × Int × Int × Int)) (ho : ∀ b, M0 b → b < w0.heap.size) (hs0_0 : Sl (Rp.int .u8) w0 M0 (.slice pA0_0 p0_0.length pc0_0) p0_0) (hs0_3 : Sl (Rp.pair (Rp.int .i64) (Rp.int .u8)) w0 M0 (.slice pA0_3 p0_3.length pc0_3) p0_3) (hs1 : Sl (Rp.pair (Rp.int .i64) (Rp.pair (Rp.int .i64) (Rp.pair (Rp.int .i64) (Rp.pair (Rp.int .u16) (Rp.pair (Rp.int .i64) (Rp.int .u8)))))) w0 M0 (.slice pA1 p1.length pc1) p1) (hG2 : (gl 2 (tab_2.flatMap en_2)).ok w0 M0) {r : (List Int) × Int × Int × (List (Int × Int))} (h : history_Behind_16.f K p0_0 p0_1 p0_2 p0_3 p1 = some r) :
    Calls Tryd.prog 16 #[.agg #[.slice pA0_0 p0_0.length pc0_0, .int .i64 p0_1, .int .i64 p0_2, .slice pA0_3 p0_3.length pc0_3], .slice pA1 p1.length pc1] w0 (history_Behind_16.post M0 w0 r) := by
  unfold history_Behind_16.f at h
  have h0 : Holds M0 w0 w0 [] := Holds.start ho
  have h00_0 := h0.addSl (Rp.int .u8) (.slice pA0_0 p0_0.length pc0_0) p0_0 (hs0_0.mono (fun _ _ hm => hm.elim id (fun hm => absurd hm (by simp [mines, sl]))))
  have h00_3 := h00_0.addSl (Rp.pair (Rp.int .i64) (Rp.int .u8)) (.slice pA0_3 p0_3.length pc0_3) p0_3 (hs0_3.mono (fun _ _ hm => hm.elim id (fun hm => absurd hm (by simp [mines, sl]))))
  have h01 := h00_3.addSl (Rp.pair (Rp.int .i64) (Rp.pair (Rp.int .i64) (Rp.pair (Rp.int .i64) (Rp.pair (Rp.int .u16) (Rp.pair (Rp.int .i64) (Rp.int .u8)))))) (.slice pA1 p1.length pc1) p1 (hs1.mono (fun _ _ hm => hm.elim id (fun hm => absurd hm (by simp [mines, sl]))))
  have h0g2 := h01.add (gl 2 (tab_2.flatMap en_2)) rfl ⟨hG2.1, fun hm => hG2.2.1 (hm.elim id (fun hm => absurd hm (by simp [mines, sl, gl]))), hG2.2.2⟩
  have h0 : Holds M0 w0 w0 [sl (Rp.int .u8) (.slice pA0_0 p0_0.length pc0_0) p0_0, sl (Rp.pair (Rp.int .i64) (Rp.int .u8)) (.slice pA0_3 p0_3.length pc0_3) p0_3, sl (Rp.pair (Rp.int .i64) (Rp.pair (Rp.int .i64) (Rp.pair (Rp.int .i64) (Rp.pair (Rp.int .u16) (Rp.pair (Rp.int .i64) (Rp.int .u8)))))) (.slice pA1 p1.length pc1) p1, gl 2 (tab_2.flatMap en_2)] := h0g2
  refine calls_of F16 rfl [.agg #[.slice pA0_0 p0_0.length pc0_0, .int .i64 p0_1, .int .i64 p0_2, .slice pA0_3 p0_3.length pc0_3], .slice pA1 p1.length pc1] (by kernel_rfl) ?_
  refine RunsI.go 1 [.c 1, .c 2] (by kernel_rfl) ?_
  refine RunsI.region (by kernel_rfl) ?_
  refine RegI.op (by kernel_rfl) (OpE.box 2 25 [.slice pA0_0 p0_0.length pc0_0, .int .i64 p0_1, .int .i64 p0_2, .slice pA0_3 p0_3.length pc0_3] h0 (by kernel_rfl) (by kernel_rfl) ?_)
  intro w1 b2 h3 hb4 hn5
  refine RegI.op (by kernel_rfl) (OpE.box 4 25 [.slice none 0 0, .int .i64 0, .int .i64 0, .slice none 0 0] h3 (by kernel_rfl) (by kernel_rfl) ?_)
  intro w6 b7 h8 hb9 hn10
  refine RegI.done (by kernel_rfl) ?_
  refine RunsI.go 2 [.c 4, .c 5, .c 19] (by kernel_rfl) ?_
  refine RunsI.region (by kernel_rfl) ?_
  refine RegI.pure 3 [2, 4, 7, 8, 9] [(2, .pointer (some ⟨b2, 0, none⟩)), (4, .pointer (some ⟨b7, 0, none⟩)), (7, .slice pA1 p1.length pc1), (8, .int .i64 (p1.length : Int)), (9, .int .i64 0)] (by kernel_rfl) ?_
  refine RegI.done (by kernel_rfl) ?_
  refine RunsI.go 2 [.c 7, .lp 7, .blk 0, .c 19] (by kernel_rfl) ?_
  obtain ⟨x63, hx64, h⟩ := of_bind h
  refine RunsI.only [2, 4, 7, 8, 9] [(2, .pointer (some ⟨b2, 0, none⟩)), (4, .pointer (some ⟨b7, 0, none⟩)), (7, .slice pA1 p1.length pc1), (8, .int .i64 (p1.length : Int)), (9, .int .i64 0)] (by kernel_rfl) (by kernel_rfl) ?_
  refine history_Behind_16.l0_ok K M0 w0 pA0_0 pc0_0 pA0_3 pc0_3 pA1 pc1 p0_0 p0_1 p0_2 p0_3 p1 b2 b7 _ x63 ?_ K p0_0 p0_1 p0_2 p0_3 0 pA0_0 pc0_0 pA0_3 pc0_3 w6 hx64 (h8.pick [4, 0, 1, 5, 2, 3] (by decide))
  · intro t67 t68 t69 t72 A65 c66 A70 c71 w74 hq78 h73
    (try rw [hq78] at h)
    dsimp only at h
    refine RunsI.go 1 [.c 20, .c 21] (by kernel_rfl) ?_
    refine RunsI.region (by kernel_rfl) ?_
    refine RegI.op (by kernel_rfl) (OpE.loadBox 17 0 25 b2 0 (.agg #[.slice A65 t67.length c66, .int .i64 t68, .int .i64 t69, .slice A70 t72.length c71]) h73 (by kernel_rfl) (by kernel_rfl) rfl (by kernel_rfl) ?_)
    refine RegI.op (by kernel_rfl) (OpE.storeBox 3 25 b7 0 (.agg #[.slice A65 t67.length c66, .int .i64 t68, .int .i64 t69, .slice A70 t72.length c71]) [.slice A65 t67.length c66, .int .i64 t68, .int .i64 t69, .slice A70 t72.length c71] h73 (by kernel_rfl) (by kernel_rfl) rfl (by kernel_rfl) (by kernel_rfl) (by kernel_rfl) ?_)
    intro w75 h76 hk77
    refine RegI.done (by kernel_rfl) ?_
    refine RunsI.toRet (by kernel_rfl) ?_
    refine RetI.valW [.cell 4 25] [.agg #[.slice A65 t67.length c66, .int .i64 t68, .int .i64 t69, .slice A70 t72.length c71]] (.agg #[.slice A65 t67.length c66, .int .i64 t68, .int .i64 t69, .slice A70 t72.length c71]) (by kernel_rfl) (ResAt.box 3 25 b7 0 h76 (by kernel_rfl) (by kernel_rfl) rfl (by kernel_rfl) rfl) (by kernel_rfl) ?_
    obtain rfl := Option.some.inj h
    exact ⟨A65, c66, A70, c71, rfl, h76.pick [1, 2] (by decide)⟩
end

/-! ### charabanc/history.Tenures (function 17) -/
section
def history_Tenures_17.post (M0 : Nat → Prop) (w0 : World) (r : (List (Int × Int × Int × Int))) : Ending → World → Prop := fun e w => ∃ (A1 : Option Addr) (c1 : Nat), e = .returned (.slice A1 r.length c1) ∧ Holds M0 w0 w [own (Rp.pair (Rp.int .i64) (Rp.pair (Rp.int .i64) (Rp.pair (Rp.int .i64) (Rp.int .i64)))) 49 (.slice A1 r.length c1) r]
def history_Tenures_17.l0 (K : Nat) (p0 : List (Int × Int × Int × Int × Int × Int)) (t32 : List (Int × Int × Int × Int × Int × Int)) (t34 : Int) (t39 : List (Int × Int × Int × Int)) : Nat → Int → Option (Lp Int Unit)
  | 0, _ => none
  | k + 1, t35 => cond (decide (t35 < t34)) (cond (inR t35 t32.length) (cond (inR 0 t32.length) (cond (((rdD t32 t35).2.1) != ((rdD t32 0).2.1)) (some (Lp.ret t35)) (history_Tenures_17.l0 K p0 t32 t34 t39 k (IntKind.wrap .i64 (t35 + 1)))) none) none) (some (Lp.go ()))
set_option maxRecDepth 100000 in
theorem history_Tenures_17.l0_ok (K : Nat) (M0 : Nat → Prop) (w0 : World) (pA0 : Option Addr) (pc0 : Nat) (p0 : List (Int × Int × Int × Int × Int × Int)) (t32 : List (Int × Int × Int × Int × Int × Int)) (t34 : Int) (t39 : List (Int × Int × Int × Int)) (A30 : Option Addr) (c31 : Nat) (b33 : Nat) (b36 : Nat) (A37 : Option Addr) (c38 : Nat) (b40 : Nat) (b41 : Nat) (R : Ending → World → Prop) (x : Lp Int Unit) (hk0 : ∀ (w1 : World), x = Lp.go () → Holds M0 w0 w1 [box b36 39 [.slice A37 t39.length c38], own (Rp.pair (Rp.int .i64) (Rp.pair (Rp.int .i64) (Rp.pair (Rp.int .i64) (Rp.int .i64)))) 49 (.slice A37 t39.length c38) t39, rng F17 8 b40 [(3, .pointer (some ⟨b36, 0, none⟩)), (6, .func (.func 88) #[] #[.pointer (some ⟨b33, 0, none⟩)])] .ready none, box b33 26 [.slice A30 t32.length c31], sl (Rp.pair (Rp.int .i64) (Rp.pair (Rp.int .i64) (Rp.pair (Rp.int .i64) (Rp.pair (Rp.int .u16) (Rp.pair (Rp.int .i64) (Rp.int .u8)))))) (.slice A30 t32.length c31) t32, dfr b41] → RunsI F89 [.c 25] [] w1 R) (hk1 : ∀ (t68 : Int) (w1 : World), x = Lp.ret t68 → Holds M0 w0 w1 [box b36 39 [.slice A37 t39.length c38], own (Rp.pair (Rp.int .i64) (Rp.pair (Rp.int .i64) (Rp.pair (Rp.int .i64) (Rp.int .i64)))) 49 (.slice A37 t39.length c38) t39, rng F17 8 b40 [(3, .pointer (some ⟨b36, 0, none⟩)), (6, .func (.func 88) #[] #[.pointer (some ⟨b33, 0, none⟩)])] .ready none, box b33 26 [.slice A30 t32.length c31], sl (Rp.pair (Rp.int .i64) (Rp.pair (Rp.int .i64) (Rp.pair (Rp.int .i64) (Rp.pair (Rp.int .u16) (Rp.pair (Rp.int .i64) (Rp.int .u8)))))) (.slice A30 t32.length c31) t32, dfr b41] → R (.returned (.int .i64 t68)) w1) :
    ∀ (k : Nat) (t35 : Int) (w : World), history_Tenures_17.l0 K p0 t32 t34 t39 k t35 = some x → Holds M0 w0 w [sl (Rp.pair (Rp.int .i64) (Rp.pair (Rp.int .i64) (Rp.pair (Rp.int .i64) (Rp.pair (Rp.int .u16) (Rp.pair (Rp.int .i64) (Rp.int .u8)))))) (.slice A30 t32.length c31) t32, box b33 26 [.slice A30 t32.length c31], box b36 39 [.slice A37 t39.length c38], own (Rp.pair (Rp.int .i64) (Rp.pair (Rp.int .i64) (Rp.pair (Rp.int .i64) (Rp.int .i64)))) 49 (.slice A37 t39.length c38) t39, rng F17 8 b40 [(3, .pointer (some ⟨b36, 0, none⟩)), (6, .func (.func 88) #[] #[.pointer (some ⟨b33, 0, none⟩)])] .ready none, dfr b41] → RunsI F89 [.c 7, .lp 7, .blk 0, .c 25] [(0, .slice A30 t32.length c31), (1, .func (.func 90) #[] #[.pointer (some ⟨b33, 0, none⟩)]), (7, .int .i64 t34), (8, .int .i64 t35)] w R := by
  intro k
  induction k with
  | zero => intro t35 w h hH; exact absurd h (by simp [history_Tenures_17.l0])
  | succ k ih =>
    intro t35 w h hH
    rw [history_Tenures_17.l0.eq_2] at h
    refine RunsI.go 1 [.c 8, .c 9, .lp 7, .blk 0, .c 25] (by kernel_rfl) ?_
    refine RunsI.region (by kernel_rfl) ?_
    refine RegI.pure 1 [0, 1, 7, 8, 9] [(0, .slice A30 t32.length c31), (1, .func (.func 90) #[] #[.pointer (some ⟨b33, 0, none⟩)]), (7, .int .i64 t34), (8, .int .i64 t35), (9, .bool (decide (t35 < t34)))] (by kernel_rfl) ?_
    refine RegI.done (by kernel_rfl) ?_
    refine RunsI.go 1 [.c 10, .c 13, .lp 7, .blk 0, .c 25] (by kernel_rfl) ?_
    rcases of_cond h with ⟨hc42, h⟩ | ⟨hc42, h⟩
    · skip
      refine RunsI.fix 9 true hc42 (by kernel_rfl) (by kernel_rfl) ?_
      refine RunsI.cond true 11 (by kernel_rfl) ?_
      refine RunsI.go 1 [.c 13, .lp 7, .blk 0, .c 25] (by kernel_rfl) ?_
      refine RunsI.go 3 [.c 16, .c 17, .blk 1, .c 24, .lp 7, .blk 0, .c 25] (by kernel_rfl) ?_
      refine RunsI.region (by kernel_rfl) ?_
      refine RegI.pure 2 [0, 1, 5, 7, 8] [(0, .slice A30 t32.length c31), (1, .func (.func 90) #[] #[.pointer (some ⟨b33, 0, none⟩)]), (5, .int .i64 t35), (7, .int .i64 t34), (8, .int .i64 t35)] (by kernel_rfl) ?_
      refine RegI.done (by kernel_rfl) ?_
      refine RunsI.go 1 [.c 18, .c 19, .blk 1, .c 24, .lp 7, .blk 0, .c 25] (by kernel_rfl) ?_
      refine RunsI.region (by kernel_rfl) ?_
      refine RegI.pure 3 [0, 1, 5, 7, 8, 11, 12, 13] [(0, .slice A30 t32.length c31), (1, .func (.func 90) #[] #[.pointer (some ⟨b33, 0, none⟩)]), (5, .int .i64 t35), (7, .int .i64 t34), (8, .int .i64 t35), (11, .func (.func 90) #[] #[.pointer (some ⟨b33, 0, none⟩)]), (12, .slice A30 t32.length c31), (13, .int .i64 t35)] (by kernel_rfl) ?_
      obtain ⟨hc43, h⟩ := of_cond0 h
      refine RegI.op (by kernel_rfl) (OpE.idxSl 14 0 26 t35 hH (by kernel_rfl) rfl (by kernel_rfl) (by kernel_rfl) hc43 ?_)
      intro b44 o45 cs46 hk47 h48
      obtain ⟨_, _, rfl, rfl, ⟨_, _, rfl, rfl, ⟨_, _, rfl, rfl, ⟨_, _, rfl, rfl, ⟨_, _, rfl, rfl, rfl⟩⟩⟩⟩⟩ := hk47
      refine RegI.op (by kernel_rfl) (OpE.loadCel 15 6 54 b44 o45 0 (.agg #[.int .i64 ((rdD t32 t35).1), .int .i64 ((rdD t32 t35).2.1), .int .i64 ((rdD t32 t35).2.2.1), .int .u16 ((rdD t32 t35).2.2.2.1), .int .i64 ((rdD t32 t35).2.2.2.2.1), .int .u8 ((rdD t32 t35).2.2.2.2.2)]) h48 (by kernel_rfl) (by kernel_rfl) rfl (by kernel_rfl) ?_)
      refine RegI.enter 16 [0, 1, 5, 7, 8] [(0, .slice A30 t32.length c31), (1, .func (.func 90) #[] #[.pointer (some ⟨b33, 0, none⟩)]), (5, .int .i64 t35), (7, .int .i64 t34), (8, .int .i64 t35)] (by kernel_rfl) (by kernel_rfl) (by kernel_rfl) (by kernel_rfl) F90 90 rfl [.agg #[.int .i64 ((rdD t32 t35).1), .int .i64 ((rdD t32 t35).2.1), .int .i64 ((rdD t32 t35).2.2.1), .int .u16 ((rdD t32 t35).2.2.2.1), .int .i64 ((rdD t32 t35).2.2.2.2.1), .int .u8 ((rdD t32 t35).2.2.2.2.2)], .pointer (some ⟨b33, 0, none⟩)] (by kernel_rfl) (by kernel_rfl) ?_
      refine RunsI.go 1 [.c 1, .c 2] (by kernel_rfl) ?_
      refine RunsI.region (by kernel_rfl) ?_
      refine RegI.op (by kernel_rfl) (OpE.box 2 54 [.int .i64 ((rdD t32 t35).1), .int .i64 ((rdD t32 t35).2.1), .int .i64 ((rdD t32 t35).2.2.1), .int .u16 ((rdD t32 t35).2.2.2.1), .int .i64 ((rdD t32 t35).2.2.2.2.1), .int .u8 ((rdD t32 t35).2.2.2.2.2)] h48 (by kernel_rfl) (by kernel_rfl) ?_)
      intro w49 b50 h51 hb52 hn53
      refine RegI.pure 1 [1, 2] [(1, .pointer (some ⟨b33, 0, none⟩)), (2, .pointer (some ⟨b50, 0, none⟩))] (by kernel_rfl) ?_
      refine RegI.done (by kernel_rfl) ?_
      refine RunsI.go 1 [.c 3, .c 4] (by kernel_rfl) ?_
      refine RunsI.any 8 (by kernel_rfl) (by kernel_rfl) (by kernel_rfl) (Kp ([] : List Nat) (World.drew w49)) ?_
      have h55 := h51.drew
      generalize World.drew w49 = w54 at h55 ⊢
      have hS56 := Kp.refl ([] : List Nat) w54
      refine AnyE.pure 0 4 (.pointer (some ⟨b50, 1, none⟩)) (by kernel_rfl) hS56 (fun _ => by kernel_rfl) ?_
      refine AnyE.loadBox 1 5 7 3 b50 1 (.int .i64 ((rdD t32 t35).2.1)) [] h55 rfl (by kernel_rfl) hS56 rfl rfl (by kernel_rfl) (by kernel_rfl) ?_
      refine AnyE.loadBox 2 6 1 26 b33 0 (.slice A30 t32.length c31) [] h55 rfl (by kernel_rfl) hS56 rfl rfl (by kernel_rfl) (by kernel_rfl) ?_
      obtain ⟨hc58, h⟩ := of_cond0 h
      refine AnyE.idxSl 3 7 0 26 0 h55 (by kernel_rfl) hS56 rfl (by kernel_rfl) (by kernel_rfl) hc58 ?_
      intro b59 o60 cs61 hk62 h63
      obtain ⟨_, _, rfl, rfl, ⟨_, _, rfl, rfl, ⟨_, _, rfl, rfl, ⟨_, _, rfl, rfl, ⟨_, _, rfl, rfl, rfl⟩⟩⟩⟩⟩ := hk62
      refine AnyE.pure 4 8 (.pointer (some ⟨b59, o60 + 1, none⟩)) (by kernel_rfl) hS56 (fun _ => by kernel_rfl) ?_
      refine AnyE.loadCel 5 9 8 3 b59 o60 1 (.int .i64 ((rdD t32 0).2.1)) [] h63 rfl (by kernel_rfl) hS56 rfl rfl (by kernel_rfl) (by kernel_rfl) ?_
      refine AnyE.pure 6 10 (.bool (((rdD t32 t35).2.1) != ((rdD t32 0).2.1))) (by kernel_rfl) hS56 (fun _ => by kernel_rfl) ?_
      refine AnyE.pure 7 3 (.bool (((rdD t32 t35).2.1) != ((rdD t32 0).2.1))) (by kernel_rfl) hS56 (fun _ => by kernel_rfl) ?_
      refine AnyE.done (by kernel_rfl) (fun w64 hu65 => ?_)
      have h66 := h63.call hu65
      refine RunsI.only [3] [(3, .bool (((rdD t32 t35).2.1) != ((rdD t32 0).2.1)))] (by kernel_rfl) (by kernel_rfl) ?_
      refine RunsI.ret (.bool (((rdD t32 t35).2.1) != ((rdD t32 0).2.1))) (by kernel_rfl) (by kernel_rfl) ?_
      refine cont_mk ?_
      refine RegI.done (by kernel_rfl) ?_
      rcases of_cond h with ⟨hc67, h⟩ | ⟨hc67, h⟩
      · skip
        refine RunsI.fix 16 true hc67 (by kernel_rfl) (by kernel_rfl) ?_
        refine RunsI.cond true 20 (by kernel_rfl) ?_
        refine RunsI.go 1 [.c 21, .c 22, .blk 1, .c 24, .lp 7, .blk 0, .c 25] (by kernel_rfl) ?_
        refine RunsI.region (by kernel_rfl) ?_
        refine RegI.pure 2 [4] [(4, .int .i64 t35)] (by kernel_rfl) ?_
        refine RegI.done (by kernel_rfl) ?_
        refine RunsI.ret (.int .i64 t35) (by kernel_rfl) (by kernel_rfl) ?_
        exact hk1 t35 w64 (Option.some.inj h).symm (h66.pick [2, 3, 4, 1, 0, 5] (by decide))
      · skip
        refine RunsI.fix 16 false hc67 (by kernel_rfl) (by kernel_rfl) ?_
        refine RunsI.cond false 23 (by kernel_rfl) ?_
        refine RunsI.go 1 [.blk 1, .c 24, .lp 7, .blk 0, .c 25] (by kernel_rfl) ?_
        refine RunsI.go 1 [.c 24, .lp 7, .blk 0, .c 25] (by kernel_rfl) ?_
        refine RunsI.region (by kernel_rfl) ?_
        refine RegI.pure 2 [0, 1, 7, 8] [(0, .slice A30 t32.length c31), (1, .func (.func 90) #[] #[.pointer (some ⟨b33, 0, none⟩)]), (7, .int .i64 t34), (8, .int .i64 (IntKind.wrap .i64 (t35 + 1)))] (by kernel_rfl) ?_
        refine RegI.done (by kernel_rfl) ?_
        refine RunsI.go 1 [.c 7, .lp 7, .blk 0, .c 25] (by kernel_rfl) ?_
        refine RunsI.only [0, 1, 7, 8] [(0, .slice A30 t32.length c31), (1, .func (.func 90) #[] #[.pointer (some ⟨b33, 0, none⟩)]), (7, .int .i64 t34), (8, .int .i64 (IntKind.wrap .i64 (t35 + 1)))] (by kernel_rfl) (by kernel_rfl) ?_
        exact ih (IntKind.wrap .i64 (t35 + 1)) w64 h (h66.pick [0, 1, 2, 3, 4, 5] (by decide))
    · skip
      refine RunsI.fix 9 false hc42 (by kernel_rfl) (by kernel_rfl) ?_
      refine RunsI.cond false 12 (by kernel_rfl) ?_
      refine RunsI.go 1 [.c 25] (by kernel_rfl) ?_
      refine RunsI.only [] [] (by kernel_rfl) (by kernel_rfl) ?_
      exact hk0 w (Option.some.inj h).symm (hH.pick [2, 3, 4, 1, 0, 5] (by decide))
def history_Tenures_17.l1 (K : Nat) (p0 : List (Int × Int × Int × Int × Int × Int)) : Nat → (List (Int × Int × Int × Int)) → (List (Int × Int × Int × Int × Int × Int)) → Option ((List (Int × Int × Int × Int)) × (List (Int × Int × Int × Int × Int × Int)))
  | 0, _, _ => none
  | k + 1, t23, t27 => cond (decide ((t27.length : Int) > 0)) (Let (fun (t76 : Int) => Let (fun (t83 : Int) => cond (cutR 0 t83 t27.length) (cond (inR 0 (cutL t27 0 t83).length) (cond (inR (IntKind.wrap .i64 (((cutL t27 0 t83).length : Int) - 1)) (cutL t27 0 t83).length) (cond (mayBe (t23.length + ([((rdD (cutL t27 0 t83) 0).2.1, (rdD (cutL t27 0 t83) 0).1, (rdD (cutL t27 0 t83) (IntKind.wrap .i64 (((cutL t27 0 t83).length : Int) - 1))).1, ((cutL t27 0 t83).length : Int))] : List (Int × Int × Int × Int)).length) 32) (cond (cutR t83 (t27.length : Int) t27.length) (history_Tenures_17.l1 K p0 k (t23 ++ ([((rdD (cutL t27 0 t83) 0).2.1, (rdD (cutL t27 0 t83) 0).1, (rdD (cutL t27 0 t83) (IntKind.wrap .i64 (((cutL t27 0 t83).length : Int) - 1))).1, ((cutL t27 0 t83).length : Int))] : List (Int × Int × Int × Int))) (cutL t27 t83 (t27.length : Int))) none) none) none) none) none) (fun j86 => cond (decide (t76 < 0)) (j86 (t27.length : Int)) (j86 t76))) (fun j79 => (history_Tenures_17.l0 K p0 t27 (t27.length : Int) t23 K 0).bind (fun x69 => Lp.elim x69 (fun t73 => j79 t73) (fun _ => j79 (-1))))) (some (t23, t27))
set_option maxRecDepth 100000 in
theorem history_Tenures_17.l1_ok (K : Nat) (M0 : Nat → Prop) (w0 : World) (pA0 : Option Addr) (pc0 : Nat) (p0 : List (Int × Int × Int × Int × Int × Int)) (b19 : Nat) (b20 : Nat) (b24 : Nat) (b28 : Nat) (R : Ending → World → Prop) (x : (List (Int × Int × Int × Int)) × (List (Int × Int × Int × Int × Int × Int))) (hk0 : ∀ (t162 : List (Int × Int × Int × Int)) (t165 : List (Int × Int × Int × Int × Int × Int)) (A160 : Option Addr) (c161 : Nat) (A163 : Option Addr) (c164 : Nat) (w1 : World), x = (t162, t165) → Holds M0 w0 w1 [box b20 39 [.slice A160 t162.length c161], own (Rp.pair (Rp.int .i64) (Rp.pair (Rp.int .i64) (Rp.pair (Rp.int .i64) (Rp.int .i64)))) 49 (.slice A160 t162.length c161) t162, rng F17 8 b19 [(3, .pointer (some ⟨b20, 0, none⟩)), (6, .func (.func 88) #[] #[.pointer (some ⟨b24, 0, none⟩)])] .ready none, box b24 26 [.slice A163 t165.length c164], sl (Rp.pair (Rp.int .i64) (Rp.pair (Rp.int .i64) (Rp.pair (Rp.int .i64) (Rp.pair (Rp.int .u16) (Rp.pair (Rp.int .i64) (Rp.int .u8)))))) (.slice A163 t165.length c164) t165, dfr b28] → RunsI F88 [] [] w1 R) :
    ∀ (k : Nat) (t23 : List (Int × Int × Int × Int)) (t27 : List (Int × Int × Int × Int × Int × Int)) (A21 : Option Addr) (c22 : Nat) (A25 : Option Addr) (c26 : Nat) (w : World), history_Tenures_17.l1 K p0 k t23 t27 = some x → Holds M0 w0 w [rng F17 8 b19 [(3, .pointer (some ⟨b20, 0, none⟩)), (6, .func (.func 88) #[] #[.pointer (some ⟨b24, 0, none⟩)])] .ready none, box b20 39 [.slice A21 t23.length c22], own (Rp.pair (Rp.int .i64) (Rp.pair (Rp.int .i64) (Rp.pair (Rp.int .i64) (Rp.int .i64)))) 49 (.slice A21 t23.length c22) t23, box b24 26 [.slice A25 t27.length c26], sl (Rp.pair (Rp.int .i64) (Rp.pair (Rp.int .i64) (Rp.pair (Rp.int .i64) (Rp.pair (Rp.int .u16) (Rp.pair (Rp.int .i64) (Rp.int .u8)))))) (.slice A25 t27.length c26) t27, dfr b28] → RunsI F88 [.c 2, .lp 2, .blk 0] [(0, .func (.yield b19) #[] #[]), (1, .pointer (some ⟨b24, 0, none⟩))] w R := by
  intro k
  induction k with
  | zero => intro t23 t27 A21 c22 A25 c26 w h hH; exact absurd h (by simp [history_Tenures_17.l1])
  | succ k ih =>
    intro t23 t27 A21 c22 A25 c26 w h hH
    rw [history_Tenures_17.l1.eq_2] at h
    refine RunsI.go 1 [.c 3, .c 8, .lp 2, .blk 0] (by kernel_rfl) ?_
    refine RunsI.go 1 [.c 4, .c 5, .c 8, .lp 2, .blk 0] (by kernel_rfl) ?_
    refine RunsI.region (by kernel_rfl) ?_
    refine RegI.op (by kernel_rfl) (OpE.loadBox 4 3 26 b24 0 (.slice A25 t27.length c26) hH (by kernel_rfl) (by kernel_rfl) rfl (by kernel_rfl) ?_)
    refine RegI.pure 2 [0, 1, 6] [(0, .func (.yield b19) #[] #[]), (1, .pointer (some ⟨b24, 0, none⟩)), (6, .bool (decide ((t27.length : Int) > 0)))] (by kernel_rfl) ?_
    refine RegI.done (by kernel_rfl) ?_
    rcases of_cond h with ⟨hc29, h⟩ | ⟨hc29, h⟩
    · skip
      refine RunsI.fix 6 true hc29 (by kernel_rfl) (by kernel_rfl) ?_
      refine RunsI.cond true 6 (by kernel_rfl) ?_
      refine RunsI.go 1 [.c 8, .lp 2, .blk 0] (by kernel_rfl) ?_
      refine RunsI.go 2 [.c 10, .c 11, .blk 1, .lp 2, .blk 0] (by kernel_rfl) ?_
      refine RunsI.region (by kernel_rfl) ?_
      refine RegI.op (by kernel_rfl) (OpE.loadBox 7 3 26 b24 0 (.slice A25 t27.length c26) hH (by kernel_rfl) (by kernel_rfl) rfl (by kernel_rfl) ?_)
      refine RegI.pure 1 [0, 1, 7, 8] [(0, .func (.yield b19) #[] #[]), (1, .pointer (some ⟨b24, 0, none⟩)), (7, .slice A25 t27.length c26), (8, .func (.func 90) #[] #[.pointer (some ⟨b24, 0, none⟩)])] (by kernel_rfl) ?_
      refine RegI.enter 9 [0, 1] [(0, .func (.yield b19) #[] #[]), (1, .pointer (some ⟨b24, 0, none⟩))] (by kernel_rfl) (by kernel_rfl) (by kernel_rfl) (by kernel_rfl) F89 89 rfl [.slice A25 t27.length c26, .func (.func 90) #[] #[.pointer (some ⟨b24, 0, none⟩)]] (by kernel_rfl) (by kernel_rfl) ?_
      obtain ⟨j79, hJ80, h⟩ := of_let h
      have hj81 : ∀ (t76 : Int) (w78 : World), j79 t76 = some x → Holds M0 w0 w78 [rng F17 8 b19 [(3, .pointer (some ⟨b20, 0, none⟩)), (6, .func (.func 88) #[] #[.pointer (some ⟨b24, 0, none⟩)])] .ready none, box b20 39 [.slice A21 t23.length c22], own (Rp.pair (Rp.int .i64) (Rp.pair (Rp.int .i64) (Rp.pair (Rp.int .i64) (Rp.int .i64)))) 49 (.slice A21 t23.length c22) t23, box b24 26 [.slice A25 t27.length c26], sl (Rp.pair (Rp.int .i64) (Rp.pair (Rp.int .i64) (Rp.pair (Rp.int .i64) (Rp.pair (Rp.int .u16) (Rp.pair (Rp.int .i64) (Rp.int .u8)))))) (.slice A25 t27.length c26) t27, dfr b28] → RegI F88 10 [.c 11, .blk 1, .lp 2, .blk 0] 3 [(0, .func (.yield b19) #[] #[]), (1, .pointer (some ⟨b24, 0, none⟩)), (9, .int .i64 t76)] w78 R := by
        intro t76 w78 h h77
        rw [hJ80] at h
        clear hJ80
        dsimp only at h
        refine RegI.pure 1 [0, 1, 3] [(0, .func (.yield b19) #[] #[]), (1, .pointer (some ⟨b24, 0, none⟩)), (3, .int .i64 t76)] (by kernel_rfl) ?_
        refine RegI.done (by kernel_rfl) ?_
        refine RunsI.go 2 [.c 13, .c 14, .c 17, .blk 1, .lp 2, .blk 0] (by kernel_rfl) ?_
        refine RunsI.region (by kernel_rfl) ?_
        refine RegI.pure 2 [0, 1, 3, 11] [(0, .func (.yield b19) #[] #[]), (1, .pointer (some ⟨b24, 0, none⟩)), (3, .int .i64 t76), (11, .bool (decide (t76 < 0)))] (by kernel_rfl) ?_
        refine RegI.done (by kernel_rfl) ?_
        obtain ⟨j86, hJ87, h⟩ := of_let h
        have hj88 : ∀ (t83 : Int) (w85 : World), j86 t83 = some x → Holds M0 w0 w85 [rng F17 8 b19 [(3, .pointer (some ⟨b20, 0, none⟩)), (6, .func (.func 88) #[] #[.pointer (some ⟨b24, 0, none⟩)])] .ready none, box b20 39 [.slice A21 t23.length c22], own (Rp.pair (Rp.int .i64) (Rp.pair (Rp.int .i64) (Rp.pair (Rp.int .i64) (Rp.int .i64)))) 49 (.slice A21 t23.length c22) t23, box b24 26 [.slice A25 t27.length c26], sl (Rp.pair (Rp.int .i64) (Rp.pair (Rp.int .i64) (Rp.pair (Rp.int .i64) (Rp.pair (Rp.int .u16) (Rp.pair (Rp.int .i64) (Rp.int .u8)))))) (.slice A25 t27.length c26) t27, dfr b28] → RunsI F88 [.c 17, .blk 1, .lp 2, .blk 0] [(0, .func (.yield b19) #[] #[]), (1, .pointer (some ⟨b24, 0, none⟩)), (3, .int .i64 t83)] w85 R := by
          intro t83 w85 h h84
          rw [hJ87] at h
          clear hJ87
          dsimp only at h
          refine RunsI.go 2 [.c 19, .c 20, .c 23, .blk 1, .lp 2, .blk 0] (by kernel_rfl) ?_
          refine RunsI.region (by kernel_rfl) ?_
          refine RegI.pure 1 [0, 1, 3, 14] [(0, .func (.yield b19) #[] #[]), (1, .pointer (some ⟨b24, 0, none⟩)), (3, .int .i64 t83), (14, .func (.yield b19) #[] #[])] (by kernel_rfl) ?_
          refine RegI.op (by kernel_rfl) (OpE.loadBox 15 3 26 b24 0 (.slice A25 t27.length c26) h84 (by kernel_rfl) (by kernel_rfl) rfl (by kernel_rfl) ?_)
          refine RegI.pure 1 [0, 1, 3, 14, 15, 16] [(0, .func (.yield b19) #[] #[]), (1, .pointer (some ⟨b24, 0, none⟩)), (3, .int .i64 t83), (14, .func (.yield b19) #[] #[]), (15, .slice A25 t27.length c26), (16, .int .i64 t83)] (by kernel_rfl) ?_
          obtain ⟨hc89, h⟩ := of_cond0 h
          refine RegI.op (by kernel_rfl) (OpE.cutSl 17 4 26 none (some t83) h84 (by kernel_rfl) rfl (by kernel_rfl) (by kernel_rfl) hc89 ?_)
          intro A90 c91 h92
          refine RegI.yield 18 b19 8 0 [.slice A90 ((cutL t27 0 t83).length) c91] [0, 1, 3] [(0, .func (.yield b19) #[] #[]), (1, .pointer (some ⟨b24, 0, none⟩)), (3, .int .i64 t83)] h92 (by kernel_rfl) (by kernel_rfl) (by kernel_rfl) (by kernel_rfl) rfl (by kernel_rfl) (by kernel_rfl) (by kernel_rfl) [.c 9, .bg, .c 10] (by kernel_rfl) [(7, .slice A90 ((cutL t27 0 t83).length) c91), (3, .pointer (some ⟨b20, 0, none⟩)), (6, .func (.func 88) #[] #[.pointer (some ⟨b24, 0, none⟩)])] (by kernel_rfl) ?_
          refine RunsI.only [3, 7] [(3, .pointer (some ⟨b20, 0, none⟩)), (7, .slice A90 ((cutL t27 0 t83).length) c91)] (by kernel_rfl) (by kernel_rfl) ?_
          refine RunsI.region (by kernel_rfl) ?_
          refine RegI.pure 1 [3, 4] [(3, .pointer (some ⟨b20, 0, none⟩)), (4, .slice A90 ((cutL t27 0 t83).length) c91)] (by kernel_rfl) ?_
          refine RegI.done (by kernel_rfl) ?_
          refine RunsI.begin 0 h92 rfl rfl ?_
          intro w93 h94 hk95
          refine RunsI.go 1 [.c 11, .blk 1] (by kernel_rfl) ?_
          refine RunsI.any 22 (by kernel_rfl) (by kernel_rfl) (by kernel_rfl) (Kp (mines (pick [rng F17 8 b19 [(3, .pointer (some ⟨b20, 0, none⟩)), (6, .func (.func 88) #[] #[.pointer (some ⟨b24, 0, none⟩)])] .busy none, box b20 39 [.slice A21 t23.length c22], own (Rp.pair (Rp.int .i64) (Rp.pair (Rp.int .i64) (Rp.pair (Rp.int .i64) (Rp.int .i64)))) 49 (.slice A21 t23.length c22) t23, box b24 26 [.slice A25 t27.length c26], sl (Rp.pair (Rp.int .i64) (Rp.pair (Rp.int .i64) (Rp.pair (Rp.int .i64) (Rp.pair (Rp.int .u16) (Rp.pair (Rp.int .i64) (Rp.int .u8)))))) (.slice A25 t27.length c26) t27, dfr b28, sl (Rp.pair (Rp.int .i64) (Rp.pair (Rp.int .i64) (Rp.pair (Rp.int .i64) (Rp.pair (Rp.int .u16) (Rp.pair (Rp.int .i64) (Rp.int .u8)))))) (.slice A90 ((cutL t27 0 t83).length) c91) (cutL t27 0 t83)] [2])) (World.drew w93)) ?_
          have h97 := h94.drew
          generalize World.drew w93 = w96 at h97 ⊢
          have hS98 := Kp.refl (mines (pick [rng F17 8 b19 [(3, .pointer (some ⟨b20, 0, none⟩)), (6, .func (.func 88) #[] #[.pointer (some ⟨b24, 0, none⟩)])] .busy none, box b20 39 [.slice A21 t23.length c22], own (Rp.pair (Rp.int .i64) (Rp.pair (Rp.int .i64) (Rp.pair (Rp.int .i64) (Rp.int .i64)))) 49 (.slice A21 t23.length c22) t23, box b24 26 [.slice A25 t27.length c26], sl (Rp.pair (Rp.int .i64) (Rp.pair (Rp.int .i64) (Rp.pair (Rp.int .i64) (Rp.pair (Rp.int .u16) (Rp.pair (Rp.int .i64) (Rp.int .u8)))))) (.slice A25 t27.length c26) t27, dfr b28, sl (Rp.pair (Rp.int .i64) (Rp.pair (Rp.int .i64) (Rp.pair (Rp.int .i64) (Rp.pair (Rp.int .u16) (Rp.pair (Rp.int .i64) (Rp.int .u8)))))) (.slice A90 ((cutL t27 0 t83).length) c91) (cutL t27 0 t83)] [2])) w96
          refine AnyE.loadBox 0 8 1 39 b20 0 (.slice A21 t23.length c22) [2] h97 rfl (by kernel_rfl) hS98 rfl rfl (by kernel_rfl) (by kernel_rfl) ?_
          refine AnyE.pure 1 9 (.slice A90 ((cutL t27 0 t83).length) c91) (by kernel_rfl) hS98 (fun _ => by kernel_rfl) ?_
          obtain ⟨hc100, h⟩ := of_cond0 h
          refine AnyE.idxSl 2 10 6 26 0 h97 (by kernel_rfl) hS98 rfl (by kernel_rfl) (by kernel_rfl) hc100 ?_
          intro b101 o102 cs103 hk104 h105
          obtain ⟨_, _, rfl, rfl, ⟨_, _, rfl, rfl, ⟨_, _, rfl, rfl, ⟨_, _, rfl, rfl, ⟨_, _, rfl, rfl, rfl⟩⟩⟩⟩⟩ := hk104
          refine AnyE.pure 3 11 (.pointer (some ⟨b101, o102 + 1, none⟩)) (by kernel_rfl) hS98 (fun _ => by kernel_rfl) ?_
          refine AnyE.loadCel 4 12 7 3 b101 o102 1 (.int .i64 ((rdD (cutL t27 0 t83) 0).2.1)) [2] h105 rfl (by kernel_rfl) hS98 rfl rfl (by kernel_rfl) (by kernel_rfl) ?_
          refine AnyE.pure 5 13 (.slice A90 ((cutL t27 0 t83).length) c91) (by kernel_rfl) hS98 (fun _ => by kernel_rfl) ?_
          refine AnyE.idxSl 6 14 6 26 0 h105 (by kernel_rfl) hS98 rfl (by kernel_rfl) (by kernel_rfl) hc100 ?_
          intro b106 o107 cs108 hk109 h110
          obtain ⟨_, _, rfl, rfl, ⟨_, _, rfl, rfl, ⟨_, _, rfl, rfl, ⟨_, _, rfl, rfl, ⟨_, _, rfl, rfl, rfl⟩⟩⟩⟩⟩ := hk109
          refine AnyE.pure 7 15 (.pointer (some ⟨b106, o107, none⟩)) (by kernel_rfl) hS98 (fun _ => by kernel_rfl) ?_
          refine AnyE.loadCel 8 16 8 3 b106 o107 0 (.int .i64 ((rdD (cutL t27 0 t83) 0).1)) [2] h110 rfl (by kernel_rfl) hS98 rfl rfl (by kernel_rfl) (by kernel_rfl) ?_
          refine AnyE.pure 9 17 (.slice A90 ((cutL t27 0 t83).length) c91) (by kernel_rfl) hS98 (fun _ => by kernel_rfl) ?_
          refine AnyE.pure 10 18 (.slice A90 ((cutL t27 0 t83).length) c91) (by kernel_rfl) hS98 (fun _ => by kernel_rfl) ?_
          refine AnyE.pure 11 19 (.int .i64 ((cutL t27 0 t83).length : Int)) (by kernel_rfl) hS98 (fun _ => by kernel_rfl) ?_
          refine AnyE.pure 12 20 (.int .i64 (IntKind.wrap .i64 (((cutL t27 0 t83).length : Int) - 1))) (by kernel_rfl) hS98 (fun _ => by kernel_rfl) ?_
          obtain ⟨hc111, h⟩ := of_cond0 h
          refine AnyE.idxSl 13 21 6 26 (IntKind.wrap .i64 (((cutL t27 0 t83).length : Int) - 1)) h110 (by kernel_rfl) hS98 rfl (by kernel_rfl) (by kernel_rfl) hc111 ?_
          intro b112 o113 cs114 hk115 h116
          obtain ⟨_, _, rfl, rfl, ⟨_, _, rfl, rfl, ⟨_, _, rfl, rfl, ⟨_, _, rfl, rfl, ⟨_, _, rfl, rfl, rfl⟩⟩⟩⟩⟩ := hk115
          refine AnyE.pure 14 22 (.pointer (some ⟨b112, o113, none⟩)) (by kernel_rfl) hS98 (fun _ => by kernel_rfl) ?_
          refine AnyE.loadCel 15 23 9 3 b112 o113 0 (.int .i64 ((rdD (cutL t27 0 t83) (IntKind.wrap .i64 (((cutL t27 0 t83).length : Int) - 1))).1)) [2] h116 rfl (by kernel_rfl) hS98 rfl rfl (by kernel_rfl) (by kernel_rfl) ?_
          refine AnyE.pure 16 24 (.slice A90 ((cutL t27 0 t83).length) c91) (by kernel_rfl) hS98 (fun _ => by kernel_rfl) ?_
          refine AnyE.pure 17 25 (.int .i64 ((cutL t27 0 t83).length : Int)) (by kernel_rfl) hS98 (fun _ => by kernel_rfl) ?_
          refine AnyE.pure 18 26 (.agg #[.int .i64 ((rdD (cutL t27 0 t83) 0).2.1), .int .i64 ((rdD (cutL t27 0 t83) 0).1), .int .i64 ((rdD (cutL t27 0 t83) (IntKind.wrap .i64 (((cutL t27 0 t83).length : Int) - 1))).1), .int .i64 ((cutL t27 0 t83).length : Int)]) (by kernel_rfl) hS98 (fun _ => by kernel_rfl) ?_
          refine AnyE.one 19 (by kernel_rfl) (fun w117 hu118 => ?_)
          have h119 := h116.call hu118
          have hS120 := hS98.up hu118
          refine OpE.lit 27 49 [.int .i64 ((rdD (cutL t27 0 t83) 0).2.1), .int .i64 ((rdD (cutL t27 0 t83) 0).1), .int .i64 ((rdD (cutL t27 0 t83) (IntKind.wrap .i64 (((cutL t27 0 t83).length : Int) - 1))).1), .int .i64 ((cutL t27 0 t83).length : Int)] 1 h119 (by kernel_rfl) (by kernel_rfl) ?_
          intro w121 b122 h123 hb124 hn125
          have hn126 := Nat.le_trans hS120.1 hn125
          have hS127 := hS120.up hb124
          refine ⟨hS127, ?_⟩
          refine AnyE.one 20 (by kernel_rfl) (fun w128 hu129 => ?_)
          have h130 := h123.call hu129
          have hS131 := hS127.up hu129
          obtain ⟨hc132, h⟩ := of_cond0 h
          refine OpE.appendBox 28 2 10 39 49 32 ([((rdD (cutL t27 0 t83) 0).2.1, (rdD (cutL t27 0 t83) 0).1, (rdD (cutL t27 0 t83) (IntKind.wrap .i64 (((cutL t27 0 t83).length : Int) - 1))).1, ((cutL t27 0 t83).length : Int))] : List (Int × Int × Int × Int)) 0 h130 (by kernel_rfl) (by kernel_rfl) (by kernel_rfl) rfl rfl rfl (⟨[_, _, _, _], _, rfl, ⟨[_], [_, _, _], rfl, rfl, ⟨[_], [_, _], rfl, rfl, ⟨[_], [_], rfl, rfl, rfl⟩⟩⟩, rfl⟩) hc132 ?_
          intro w133 A134 c135 h136 hk137
          have hS138 := hS131.trans hk137 (Kp.turned h116 [2] rfl 2 rfl rfl)
          refine ⟨hS138, ?_⟩
          refine AnyE.last 21 (by kernel_rfl) (by kernel_rfl) (fun w139 hu140 => ?_)
          have h141 := h136.call hu140
          have hS142 := hS138.up hu140
          refine OpE.storeBox 1 39 b20 0 (.slice A134 ((t23 ++ ([((rdD (cutL t27 0 t83) 0).2.1, (rdD (cutL t27 0 t83) 0).1, (rdD (cutL t27 0 t83) (IntKind.wrap .i64 (((cutL t27 0 t83).length : Int) - 1))).1, ((cutL t27 0 t83).length : Int))] : List (Int × Int × Int × Int))).length) c135) [.slice A134 ((t23 ++ ([((rdD (cutL t27 0 t83) 0).2.1, (rdD (cutL t27 0 t83) 0).1, (rdD (cutL t27 0 t83) (IntKind.wrap .i64 (((cutL t27 0 t83).length : Int) - 1))).1, ((cutL t27 0 t83).length : Int))] : List (Int × Int × Int × Int))).length) c135] h141 (by kernel_rfl) (by kernel_rfl) rfl (by kernel_rfl) (by kernel_rfl) (by kernel_rfl) ?_
          intro w143 h144 hk145
          refine AnyE.done (by kernel_rfl) (fun w147 hu148 => ?_)
          have h149 := h144.call hu148
          refine RunsI.only [] [] (by kernel_rfl) (by kernel_rfl) ?_
          refine RunsI.go 1 [] (by kernel_rfl) ?_
          refine RunsI.roundEnd 0 h149 rfl rfl ?_
          intro w150 h151 hk152
          refine cont_mk ?_
          refine RegI.pure 1 [0, 1, 3, 19] [(0, .func (.yield b19) #[] #[]), (1, .pointer (some ⟨b24, 0, none⟩)), (3, .int .i64 t83), (19, .bool false)] (by kernel_rfl) ?_
          refine RegI.done (by kernel_rfl) ?_
          refine RunsI.cond false 22 (by kernel_rfl) ?_
          refine RunsI.go 1 [.c 23, .blk 1, .lp 2, .blk 0] (by kernel_rfl) ?_
          refine RunsI.region (by kernel_rfl) ?_
          refine RegI.op (by kernel_rfl) (OpE.loadBox 20 3 26 b24 0 (.slice A25 t27.length c26) h151 (by kernel_rfl) (by kernel_rfl) rfl (by kernel_rfl) ?_)
          refine RegI.pure 1 [0, 1, 20, 21] [(0, .func (.yield b19) #[] #[]), (1, .pointer (some ⟨b24, 0, none⟩)), (20, .slice A25 t27.length c26), (21, .int .i64 t83)] (by kernel_rfl) ?_
          obtain ⟨hc153, h⟩ := of_cond0 h
          refine RegI.op (by kernel_rfl) (OpE.cutSl 22 4 26 (some t83) none h151 (by kernel_rfl) rfl (by kernel_rfl) (by kernel_rfl) hc153 ?_)
          intro A154 c155 h156
          refine RegI.op (by kernel_rfl) (OpE.storeBox 3 26 b24 0 (.slice A154 ((cutL t27 t83 (t27.length : Int)).length) c155) [.slice A154 ((cutL t27 t83 (t27.length : Int)).length) c155] h156 (by kernel_rfl) (by kernel_rfl) rfl (by kernel_rfl) (by kernel_rfl) (by kernel_rfl) ?_)
          intro w157 h158 hk159
          refine RegI.done (by kernel_rfl) ?_
          refine RunsI.go 2 [.c 2, .lp 2, .blk 0] (by kernel_rfl) ?_
          refine RunsI.only [0, 1] [(0, .func (.yield b19) #[] #[]), (1, .pointer (some ⟨b24, 0, none⟩))] (by kernel_rfl) (by kernel_rfl) ?_
          exact ih (t23 ++ ([((rdD (cutL t27 0 t83) 0).2.1, (rdD (cutL t27 0 t83) 0).1, (rdD (cutL t27 0 t83) (IntKind.wrap .i64 (((cutL t27 0 t83).length : Int) - 1))).1, ((cutL t27 0 t83).length : Int))] : List (Int × Int × Int × Int))) (cutL t27 t83 (t27.length : Int)) A134 c135 A154 c155 w157 h (h158.pick [0, 1, 2, 3, 11, 5] (by decide))
        clear hJ87
        rcases of_cond h with ⟨hc82, h⟩ | ⟨hc82, h⟩
        · skip
          refine RunsI.fix 11 true hc82 (by kernel_rfl) (by kernel_rfl) ?_
          refine RunsI.cond true 15 (by kernel_rfl) ?_
          refine RunsI.region (by kernel_rfl) ?_
          refine RegI.op (by kernel_rfl) (OpE.loadBox 12 3 26 b24 0 (.slice A25 t27.length c26) h77 (by kernel_rfl) (by kernel_rfl) rfl (by kernel_rfl) ?_)
          refine RegI.pure 2 [0, 1, 3] [(0, .func (.yield b19) #[] #[]), (1, .pointer (some ⟨b24, 0, none⟩)), (3, .int .i64 (t27.length : Int))] (by kernel_rfl) ?_
          refine RegI.done (by kernel_rfl) ?_
          refine RunsI.only [0, 1, 3] [(0, .func (.yield b19) #[] #[]), (1, .pointer (some ⟨b24, 0, none⟩)), (3, .int .i64 (t27.length : Int))] (by kernel_rfl) (by kernel_rfl) ?_
          exact hj88 (t27.length : Int) w78 h (h77.pick [0, 1, 2, 3, 4, 5] (by decide))
        · skip
          refine RunsI.fix 11 false hc82 (by kernel_rfl) (by kernel_rfl) ?_
          refine RunsI.cond false 16 (by kernel_rfl) ?_
          refine RunsI.go 1 [.c 17, .blk 1, .lp 2, .blk 0] (by kernel_rfl) ?_
          refine RunsI.only [0, 1, 3] [(0, .func (.yield b19) #[] #[]), (1, .pointer (some ⟨b24, 0, none⟩)), (3, .int .i64 t76)] (by kernel_rfl) (by kernel_rfl) ?_
          exact hj88 t76 w78 h (h77.pick [0, 1, 2, 3, 4, 5] (by decide))
      clear hJ80
      refine RunsI.go 1 [.c 1, .c 2] (by kernel_rfl) ?_
      refine RunsI.region (by kernel_rfl) ?_
      refine RegI.pure 1 [0, 1] [(0, .slice A25 t27.length c26), (1, .func (.func 90) #[] #[.pointer (some ⟨b24, 0, none⟩)])] (by kernel_rfl) ?_
      refine RegI.done (by kernel_rfl) ?_
      refine RunsI.go 2 [.c 4, .c 5, .c 25] (by kernel_rfl) ?_
      refine RunsI.region (by kernel_rfl) ?_
      refine RegI.pure 3 [0, 1, 7, 8] [(0, .slice A25 t27.length c26), (1, .func (.func 90) #[] #[.pointer (some ⟨b24, 0, none⟩)]), (7, .int .i64 (t27.length : Int)), (8, .int .i64 0)] (by kernel_rfl) ?_
      refine RegI.done (by kernel_rfl) ?_
      refine RunsI.go 2 [.c 7, .lp 7, .blk 0, .c 25] (by kernel_rfl) ?_
      obtain ⟨x69, hx70, h⟩ := of_bind h
      refine RunsI.only [0, 1, 7, 8] [(0, .slice A25 t27.length c26), (1, .func (.func 90) #[] #[.pointer (some ⟨b24, 0, none⟩)]), (7, .int .i64 (t27.length : Int)), (8, .int .i64 0)] (by kernel_rfl) (by kernel_rfl) ?_
      refine history_Tenures_17.l0_ok K M0 w0 pA0 pc0 p0 t27 (t27.length : Int) t23 A25 c26 b24 b20 A21 c22 b19 b28 _ x69 ?_ ?_ K 0 w hx70 (hH.pick [4, 3, 1, 2, 0, 5] (by decide))
      · intro w72 hq182 h71
        (try rw [hq182] at h)
        dsimp only [Lp.elim] at h
        refine RunsI.go 1 [.c 26, .c 27] (by kernel_rfl) ?_
        refine RunsI.region (by kernel_rfl) ?_
        refine RegI.pure 1 [4] [(4, .int .i64 (-1))] (by kernel_rfl) ?_
        refine RegI.done (by kernel_rfl) ?_
        refine RunsI.ret (.int .i64 (-1)) (by kernel_rfl) (by kernel_rfl) ?_
        refine cont_mk ?_
        refine RegI.only [0, 1, 9] [(0, .func (.yield b19) #[] #[]), (1, .pointer (some ⟨b24, 0, none⟩)), (9, .int .i64 (-1))] (by kernel_rfl) (by kernel_rfl) ?_
        exact hj81 (-1) w72 h (h71.pick [2, 0, 1, 3, 4, 5] (by decide))
      · intro t73 w75 hq183 h74
        (try rw [hq183] at h)
        dsimp only [Lp.elim] at h
        refine cont_mk ?_
        refine RegI.only [0, 1, 9] [(0, .func (.yield b19) #[] #[]), (1, .pointer (some ⟨b24, 0, none⟩)), (9, .int .i64 t73)] (by kernel_rfl) (by kernel_rfl) ?_
        exact hj81 t73 w75 h (h74.pick [2, 0, 1, 3, 4, 5] (by decide))
    · skip
      refine RunsI.fix 6 false hc29 (by kernel_rfl) (by kernel_rfl) ?_
      refine RunsI.cond false 7 (by kernel_rfl) ?_
      refine RunsI.go 1 [] (by kernel_rfl) ?_
      refine RunsI.only [] [] (by kernel_rfl) (by kernel_rfl) ?_
      exact hk0 t23 t27 A21 c22 A25 c26 w (Option.some.inj h).symm (hH.pick [1, 2, 0, 3, 4, 5] (by decide))
def history_Tenures_17.f (K : Nat) (p0 : List (Int × Int × Int × Int × Int × Int)) : Option (List (Int × Int × Int × Int)) := (history_Tenures_17.l1 K p0 K ([] : List (Int × Int × Int × Int)) p0).bind (fun yx166 => some yx166.1)
set_option maxRecDepth 100000 in
theorem history_Tenures_17_ok (K : Nat) (M0 : Nat → Prop) (w0 : World) (pA0 : Option Addr) (pc0 : Nat) (p0 : List (Int × Int × Int × Int × Int × Int)) (ho : ∀ b, M0 b → b < w0.heap.size) (hs0 : Sl (Rp.pair (Rp.int .i64) (Rp.pair (Rp.int .i64) (Rp.pair (Rp.int .i64) (Rp.pair (Rp.int .u16) (Rp.pair (Rp.int .i64) (Rp.int .u8)))))) w0 M0 (.slice pA0 p0.length pc0) p0) {r : (List (Int × Int × Int × Int))} (h : history_Tenures_17.f K p0 = some r) :
    Calls Tryd.prog 17 #[.slice pA0 p0.length pc0] w0 (history_Tenures_17.post M0 w0 r) := by
  unfold history_Tenures_17.f at h
  have h0 : Holds M0 w0 w0 [] := Holds.start ho
  have h00 := h0.addSl (Rp.pair (Rp.int .i64) (Rp.pair (Rp.int .i64) (Rp.pair (Rp.int .i64) (Rp.pair (Rp.int .u16) (Rp.pair (Rp.int .i64) (Rp.int .u8)))))) (.slice pA0 p0.length pc0) p0 (hs0.mono (fun _ _ hm => hm.elim id (fun hm => absurd hm (by simp [mines, sl]))))
  have h0 : Holds M0 w0 w0 [sl (Rp.pair (Rp.int .i64) (Rp.pair (Rp.int .i64) (Rp.pair (Rp.int .i64) (Rp.pair (Rp.int .u16) (Rp.pair (Rp.int .i64) (Rp.int .u8)))))) (.slice pA0 p0.length pc0) p0] := h00
  refine calls_of F17 rfl [.slice pA0 p0.length pc0] (by kernel_rfl) ?_
  refine RunsI.go 1 [.c 1, .c 2] (by kernel_rfl) ?_
  refine RunsI.region (by kernel_rfl) ?_
  refine RegI.pure 1 [0] [(0, .slice pA0 p0.length pc0)] (by kernel_rfl) ?_
  refine RegI.done (by kernel_rfl) ?_
  refine RunsI.go 1 [.c 3, .c 4] (by kernel_rfl) ?_
  refine RunsI.region (by kernel_rfl) ?_
  refine RegI.op (by kernel_rfl) (OpE.box 3 39 [.slice none 0 0] h0 (by kernel_rfl) (by kernel_rfl) ?_)
  intro w1 b2 h3 hb4 hn5
  refine RegI.done (by kernel_rfl) ?_
  refine RunsI.go 2 [.c 6, .c 7, .c 12] (by kernel_rfl) ?_
  refine RunsI.region (by kernel_rfl) ?_
  refine RegI.pure 1 [3, 5] [(3, .pointer (some ⟨b2, 0, none⟩)), (5, .slice pA0 p0.length pc0)] (by kernel_rfl) ?_
  refine RegI.enter 6 [3] [(3, .pointer (some ⟨b2, 0, none⟩))] (by kernel_rfl) (by kernel_rfl) (by kernel_rfl) (by kernel_rfl) F48 48 rfl [.slice pA0 p0.length pc0] (by kernel_rfl) (by kernel_rfl) ?_
  refine RunsI.go 1 [.c 1, .c 2] (by kernel_rfl) ?_
  refine RunsI.region (by kernel_rfl) ?_
  refine RegI.op (by kernel_rfl) (OpE.box 1 26 [.slice pA0 p0.length pc0] h3 (by kernel_rfl) (by kernel_rfl) ?_)
  intro w6 b7 h8 hb9 hn10
  refine RegI.pure 1 [1] [(1, .pointer (some ⟨b7, 0, none⟩))] (by kernel_rfl) ?_
  refine RegI.done (by kernel_rfl) ?_
  refine RunsI.go 1 [.c 3, .c 4] (by kernel_rfl) ?_
  refine RunsI.region (by kernel_rfl) ?_
  refine RegI.pure 2 [2] [(2, .func (.func 88) #[] #[.pointer (some ⟨b7, 0, none⟩)])] (by kernel_rfl) ?_
  refine RegI.done (by kernel_rfl) ?_
  refine RunsI.ret (.func (.func 88) #[] #[.pointer (some ⟨b7, 0, none⟩)]) (by kernel_rfl) (by kernel_rfl) ?_
  refine cont_mk ?_
  refine RegI.done (by kernel_rfl) ?_
  refine RunsI.go 1 [.c 8, .blk 0, .c 12] (by kernel_rfl) ?_
  refine RunsI.rangeFunc (G := F88) [3, 6] [(3, .pointer (some ⟨b2, 0, none⟩)), (6, .func (.func 88) #[] #[.pointer (some ⟨b7, 0, none⟩)])] 88 [.pointer (some ⟨b7, 0, none⟩)] h8 (by kernel_rfl) (by kernel_rfl) (by kernel_rfl) (fun _ _ => by kernel_rfl) rfl rfl (by kernel_rfl) rfl rfl ?_
  intro b11 b12 w13 h14 hb15 hn16 hn17
  refine RunsI.go 2 [.c 2, .lp 2, .blk 0] (by kernel_rfl) ?_
  obtain ⟨x166, hx167, h⟩ := of_bind h
  have h18 := h14.addOwnNil (Rp.pair (Rp.int .i64) (Rp.pair (Rp.int .i64) (Rp.pair (Rp.int .i64) (Rp.int .i64)))) 49
  refine RunsI.only [0, 1] [(0, .func (.yield b12) #[] #[]), (1, .pointer (some ⟨b7, 0, none⟩))] (by kernel_rfl) (by kernel_rfl) ?_
  refine history_Tenures_17.l1_ok K M0 w0 pA0 pc0 p0 b12 b2 b7 b11 _ x166 ?_ K ([] : List (Int × Int × Int × Int)) p0 none 0 pA0 pc0 w13 hx167 (h18.pick [4, 1, 5, 2, 0, 3] (by decide))
  · intro t170 t173 A168 c169 A171 c172 w175 hq184 h174
    (try rw [hq184] at h)
    dsimp only at h
    refine RunsI.ret (.tuple #[]) (by kernel_rfl) (by kernel_rfl) ?_
    refine contR_mk ?_
    refine RunsI.endLoop 2 h174 rfl rfl (by intro hh; cases hh) [.blk 0, .c 12] (by kernel_rfl) ?_
    intro w176 h177 hk178
    refine RunsI.go 2 [.c 13, .c 14] (by kernel_rfl) ?_
    refine RunsI.region (by kernel_rfl) ?_
    refine RegI.op (by kernel_rfl) (OpE.loadBox 29 0 39 b2 0 (.slice A168 t170.length c169) h177 (by kernel_rfl) (by kernel_rfl) rfl (by kernel_rfl) ?_)
    refine RegI.pure 1 [2] [(2, .slice A168 t170.length c169)] (by kernel_rfl) ?_
    refine RegI.done (by kernel_rfl) ?_
    refine RunsI.toRet (by kernel_rfl) ?_
    refine RetI.takeH 5 b11 h177 rfl ?_
    intro w179 h180 hk181
    refine RetI.val (.slice A168 t170.length c169) (by kernel_rfl) ?_
    obtain rfl := Option.some.inj h
    exact ⟨A168, c169, rfl, h180.pick [1] (by decide)⟩
end

/-! ### charabanc/history.known (function 49) -/
section
def history_known_49.post (M0 : Nat → Prop) (w0 : World) (r : Bool) : Ending → World → Prop := fun e w => e = .returned (.bool r) ∧ Below w0.heap.size w0 w
def history_known_49.f (K : Nat) (p0 : Int) : Option Bool := cond (decide (p0 ≥ 0)) (some (decide (p0 < 4))) (some false)
set_option maxRecDepth 100000 in
theorem history_known_49_ok (K : Nat) (M0 : Nat → Prop) (w0 : World) (p0 : Int) (ho : ∀ b, M0 b → b < w0.heap.size) {r : Bool} (h : history_known_49.f K p0 = some r) :
    Calls Tryd.prog 49 #[.int .i64 p0] w0 (history_known_49.post M0 w0 r) := by
  unfold history_known_49.f at h
  have h0 : Holds M0 w0 w0 [] := Holds.start ho
  have h0 : Holds M0 w0 w0 [] := h0
  refine calls_of F49 rfl [.int .i64 p0] (by kernel_rfl) ?_
  refine RunsI.go 1 [.c 1, .c 2] (by kernel_rfl) ?_
  refine RunsI.region (by kernel_rfl) ?_
  refine RegI.pure 1 [0] [(0, .int .i64 p0)] (by kernel_rfl) ?_
  refine RegI.done (by kernel_rfl) ?_
  refine RunsI.go 1 [.c 3, .c 4] (by kernel_rfl) ?_
  refine RunsI.region (by kernel_rfl) ?_
  refine RegI.pure 3 [0, 5] [(0, .int .i64 p0), (5, .bool (decide (p0 ≥ 0)))] (by kernel_rfl) ?_
  rcases of_cond h with ⟨hc1, h⟩ | ⟨hc1, h⟩
  · skip
    refine RegI.fix 5 true hc1 (by kernel_rfl) (by kernel_rfl) ?_
    refine RegI.pure 4 [2] [(2, .bool (decide (p0 < 4)))] (by kernel_rfl) ?_
    refine RegI.done (by kernel_rfl) ?_
    refine RunsI.ret (.bool (decide (p0 < 4))) (by kernel_rfl) (by kernel_rfl) ?_
    obtain rfl := Option.some.inj h
    exact ⟨rfl, h0.below⟩
  · skip
    refine RegI.fix 5 false hc1 (by kernel_rfl) (by kernel_rfl) ?_
    refine RegI.pure 4 [2] [(2, .bool false)] (by kernel_rfl) ?_
    refine RegI.done (by kernel_rfl) ?_
    refine RunsI.ret (.bool false) (by kernel_rfl) (by kernel_rfl) ?_
    obtain rfl := Option.some.inj h
    exact ⟨rfl, h0.below⟩
end

/-! ### charabanc/history.Counts (function 19) -/
section
def history_Counts_19.post (M0 : Nat → Prop) (w0 : World) (r : (List Int)) : Ending → World → Prop := fun e w => e = .returned (.agg (List.flatMap (fun (x : Int) => ([.int .i64 x] : List Value)) r).toArray) ∧ Below w0.heap.size w0 w
def history_Counts_19.l0 (K : Nat) (p0 : List (Int × Int × Int × Int × Int × Int)) : Nat → (List Int) → Int → Option (List Int)
  | 0, _, _ => none
  | k + 1, t13, t14 => cond (decide (t14 < (p0.length : Int))) (cond (inR t14 p0.length) ((history_known_49.f K ((rdD p0 t14).2.1)).bind fun t34 => cond t34 (cond (inR ((rdD p0 t14).2.1) 4) (cond (inR ((rdD p0 t14).2.1) t13.length) (history_Counts_19.l0 K p0 k (stD t13 ((rdD p0 t14).2.1) (IntKind.wrap .i64 ((rdD t13 ((rdD p0 t14).2.1)) + 1))) (IntKind.wrap .i64 (t14 + 1))) none) none) (history_Counts_19.l0 K p0 k t13 (IntKind.wrap .i64 (t14 + 1)))) none) (some t13)
set_option maxRecDepth 100000 in
theorem history_Counts_19.l0_ok (K : Nat) (M0 : Nat → Prop) (w0 : World) (pA0 : Option Addr) (pc0 : Nat) (p0 : List (Int × Int × Int × Int × Int × Int)) (b11 : Nat) (b12 : Nat) (R : Ending → World → Prop) (x : (List Int)) (hk0 : ∀ (t41 : List Int) (w1 : World), x = t41 → Holds M0 w0 w1 [box b11 43 (List.flatMap (fun (x : Int) => ([.int .i64 x] : List Value)) (List.replicate 4 0)), box b12 43 (List.flatMap (fun (x : Int) => ([.int .i64 x] : List Value)) t41)] → RunsI F19 [.c 25] [(2, .pointer (some ⟨b11, 0, none⟩)), (3, .pointer (some ⟨b12, 0, none⟩))] w1 R) :
    ∀ (k : Nat) (t13 : List Int) (t14 : Int) (w : World), history_Counts_19.l0 K p0 k t13 t14 = some x → Holds M0 w0 w [box b11 43 (List.flatMap (fun (x : Int) => ([.int .i64 x] : List Value)) (List.replicate 4 0)), box b12 43 (List.flatMap (fun (x : Int) => ([.int .i64 x] : List Value)) t13), sl (Rp.pair (Rp.int .i64) (Rp.pair (Rp.int .i64) (Rp.pair (Rp.int .i64) (Rp.pair (Rp.int .u16) (Rp.pair (Rp.int .i64) (Rp.int .u8)))))) (.slice pA0 p0.length pc0) p0] → RunsI F19 [.c 9, .lp 9, .blk 0, .c 25] [(2, .pointer (some ⟨b11, 0, none⟩)), (3, .pointer (some ⟨b12, 0, none⟩)), (6, .slice pA0 p0.length pc0), (7, .int .i64 (p0.length : Int)), (8, .int .i64 t14)] w R := by
  intro k
  induction k with
  | zero => intro t13 t14 w h hH; exact absurd h (by simp [history_Counts_19.l0])
  | succ k ih =>
    intro t13 t14 w h hH
    rw [history_Counts_19.l0.eq_2] at h
    refine RunsI.go 1 [.c 10, .c 11, .lp 9, .blk 0, .c 25] (by kernel_rfl) ?_
    refine RunsI.region (by kernel_rfl) ?_
    refine RegI.pure 1 [2, 3, 6, 7, 8, 9] [(2, .pointer (some ⟨b11, 0, none⟩)), (3, .pointer (some ⟨b12, 0, none⟩)), (6, .slice pA0 p0.length pc0), (7, .int .i64 (p0.length : Int)), (8, .int .i64 t14), (9, .bool (decide (t14 < (p0.length : Int))))] (by kernel_rfl) ?_
    refine RegI.done (by kernel_rfl) ?_
    refine RunsI.go 1 [.c 12, .c 15, .lp 9, .blk 0, .c 25] (by kernel_rfl) ?_
    rcases of_cond h with ⟨hc15, h⟩ | ⟨hc15, h⟩
    · skip
      refine RunsI.fix 9 true hc15 (by kernel_rfl) (by kernel_rfl) ?_
      refine RunsI.cond true 13 (by kernel_rfl) ?_
      refine RunsI.go 1 [.c 15, .lp 9, .blk 0, .c 25] (by kernel_rfl) ?_
      refine RunsI.go 3 [.c 18, .c 19, .blk 1, .c 24, .lp 9, .blk 0, .c 25] (by kernel_rfl) ?_
      refine RunsI.region (by kernel_rfl) ?_
      obtain ⟨hc16, h⟩ := of_cond0 h
      refine RegI.op (by kernel_rfl) (OpE.idxSl 10 2 26 t14 hH (by kernel_rfl) rfl (by kernel_rfl) (by kernel_rfl) hc16 ?_)
      intro b17 o18 cs19 hk20 h21
      obtain ⟨_, _, rfl, rfl, ⟨_, _, rfl, rfl, ⟨_, _, rfl, rfl, ⟨_, _, rfl, rfl, ⟨_, _, rfl, rfl, rfl⟩⟩⟩⟩⟩ := hk20
      refine RegI.op (by kernel_rfl) (OpE.loadCel 11 3 54 b17 o18 0 (.agg #[.int .i64 ((rdD p0 t14).1), .int .i64 ((rdD p0 t14).2.1), .int .i64 ((rdD p0 t14).2.2.1), .int .u16 ((rdD p0 t14).2.2.2.1), .int .i64 ((rdD p0 t14).2.2.2.2.1), .int .u8 ((rdD p0 t14).2.2.2.2.2)]) h21 (by kernel_rfl) (by kernel_rfl) rfl (by kernel_rfl) ?_)
      refine RegI.op (by kernel_rfl) (OpE.box 5 54 [.int .i64 0, .int .i64 0, .int .i64 0, .int .u16 0, .int .i64 0, .int .u8 0] h21 (by kernel_rfl) (by kernel_rfl) ?_)
      intro w22 b23 h24 hb25 hn26
      refine RegI.op (by kernel_rfl) (OpE.storeBox 4 54 b23 0 (.agg #[.int .i64 ((rdD p0 t14).1), .int .i64 ((rdD p0 t14).2.1), .int .i64 ((rdD p0 t14).2.2.1), .int .u16 ((rdD p0 t14).2.2.2.1), .int .i64 ((rdD p0 t14).2.2.2.2.1), .int .u8 ((rdD p0 t14).2.2.2.2.2)]) [.int .i64 ((rdD p0 t14).1), .int .i64 ((rdD p0 t14).2.1), .int .i64 ((rdD p0 t14).2.2.1), .int .u16 ((rdD p0 t14).2.2.2.1), .int .i64 ((rdD p0 t14).2.2.2.2.1), .int .u8 ((rdD p0 t14).2.2.2.2.2)] h24 (by kernel_rfl) (by kernel_rfl) rfl (by kernel_rfl) (by kernel_rfl) (by kernel_rfl) ?_)
      intro w27 h28 hk29
      refine RegI.done (by kernel_rfl) ?_
      refine RunsI.go 1 [.c 20, .c 21, .blk 1, .c 24, .lp 9, .blk 0, .c 25] (by kernel_rfl) ?_
      refine RunsI.region (by kernel_rfl) ?_
      refine RegI.pure 1 [2, 3, 5, 6, 7, 8, 12] [(2, .pointer (some ⟨b11, 0, none⟩)), (3, .pointer (some ⟨b12, 0, none⟩)), (5, .pointer (some ⟨b23, 0, none⟩)), (6, .slice pA0 p0.length pc0), (7, .int .i64 (p0.length : Int)), (8, .int .i64 t14), (12, .pointer (some ⟨b23, 1, none⟩))] (by kernel_rfl) ?_
      refine RegI.op (by kernel_rfl) (OpE.loadBox 13 4 3 b23 1 (.int .i64 ((rdD p0 t14).2.1)) h28 (by kernel_rfl) (by kernel_rfl) rfl (by kernel_rfl) ?_)
      obtain ⟨t34, hg33, h⟩ := of_bind h
      refine RegI.op (by kernel_rfl) (OpE.call 14 (by kernel_rfl) 49 #[.int .i64 ((rdD p0 t14).2.1)] (by kernel_rfl) ((history_known_49_ok K _ w27  ((rdD p0 t14).2.1) h28.old' hg33).mono ?_))
      rintro _ w30 ⟨rfl, hb31⟩
      refine ⟨_, rfl, ?_⟩
      have h32 := h28.call hb31
      refine RegI.done (by kernel_rfl) ?_
      rcases of_cond h with ⟨hc35, h⟩ | ⟨hc35, h⟩
      · skip
        refine RunsI.fix 14 true hc35 (by kernel_rfl) (by kernel_rfl) ?_
        refine RunsI.cond true 22 (by kernel_rfl) ?_
        refine RunsI.region (by kernel_rfl) ?_
        refine RegI.pure 1 [2, 3, 6, 7, 8, 15] [(2, .pointer (some ⟨b11, 0, none⟩)), (3, .pointer (some ⟨b12, 0, none⟩)), (6, .slice pA0 p0.length pc0), (7, .int .i64 (p0.length : Int)), (8, .int .i64 t14), (15, .pointer (some ⟨b23, 1, none⟩))] (by kernel_rfl) ?_
        refine RegI.op (by kernel_rfl) (OpE.loadBox 16 4 3 b23 1 (.int .i64 ((rdD p0 t14).2.1)) h32 (by kernel_rfl) (by kernel_rfl) rfl (by kernel_rfl) ?_)
        obtain ⟨hc36, h⟩ := of_cond0 h
        refine RegI.op (by kernel_rfl) (OpE.run 17 (by kernel_rfl) (run_idxArr (T := 43) (b := b12) (o := 0) (ix := ((rdD p0 t14).2.1)) (len := 4) (s := 1) (by kernel_rfl) (by kernel_rfl) hc36) ?_)
        obtain ⟨hc37, h⟩ := of_cond0 h
        refine RegI.op (by kernel_rfl) (OpE.loadArr 18 1 3 (fun (x : Int) => ([.int .i64 x] : List Value)) t13 0 1 ((rdD p0 t14).2.1) (.int .i64 (rdD t13 ((rdD p0 t14).2.1))) (o := 0 + (Int.toNat ((rdD p0 t14).2.1)) * 1) h32 (by kernel_rfl) rfl (fun _ => rfl) (by kernel_rfl) (by omega) hc37 (fun _ => by kernel_rfl) ?_)
        refine RegI.pure 1 [2, 3, 6, 7, 8, 16, 19] [(2, .pointer (some ⟨b11, 0, none⟩)), (3, .pointer (some ⟨b12, 0, none⟩)), (6, .slice pA0 p0.length pc0), (7, .int .i64 (p0.length : Int)), (8, .int .i64 t14), (16, .int .i64 ((rdD p0 t14).2.1)), (19, .int .i64 (IntKind.wrap .i64 ((rdD t13 ((rdD p0 t14).2.1)) + 1)))] (by kernel_rfl) ?_
        refine RegI.op (by kernel_rfl) (OpE.run 20 (by kernel_rfl) (run_idxArr (T := 43) (b := b12) (o := 0) (ix := ((rdD p0 t14).2.1)) (len := 4) (s := 1) (by kernel_rfl) (by kernel_rfl) hc36) ?_)
        refine RegI.op (by kernel_rfl) (OpE.storeArr (en := (fun (x : Int) => ([.int .i64 x] : List Value))) 1 3 b12 1 ((rdD p0 t14).2.1) (.int .i64 (IntKind.wrap .i64 ((rdD t13 ((rdD p0 t14).2.1)) + 1))) (xs := t13) (IntKind.wrap .i64 ((rdD t13 ((rdD p0 t14).2.1)) + 1)) (o := 0 + (Int.toNat ((rdD p0 t14).2.1)) * 1) h32 (by kernel_rfl) (by kernel_rfl) rfl (fun _ => rfl) (by omega) (by kernel_rfl) (by kernel_rfl) hc37 ?_)
        intro w38 h39 hk40
        refine RegI.done (by kernel_rfl) ?_
        refine RunsI.go 1 [.c 24, .lp 9, .blk 0, .c 25] (by kernel_rfl) ?_
        refine RunsI.region (by kernel_rfl) ?_
        refine RegI.pure 2 [2, 3, 6, 7, 8] [(2, .pointer (some ⟨b11, 0, none⟩)), (3, .pointer (some ⟨b12, 0, none⟩)), (6, .slice pA0 p0.length pc0), (7, .int .i64 (p0.length : Int)), (8, .int .i64 (IntKind.wrap .i64 (t14 + 1)))] (by kernel_rfl) ?_
        refine RegI.done (by kernel_rfl) ?_
        refine RunsI.go 1 [.c 9, .lp 9, .blk 0, .c 25] (by kernel_rfl) ?_
        refine RunsI.only [2, 3, 6, 7, 8] [(2, .pointer (some ⟨b11, 0, none⟩)), (3, .pointer (some ⟨b12, 0, none⟩)), (6, .slice pA0 p0.length pc0), (7, .int .i64 (p0.length : Int)), (8, .int .i64 (IntKind.wrap .i64 (t14 + 1)))] (by kernel_rfl) (by kernel_rfl) ?_
        exact ih (stD t13 ((rdD p0 t14).2.1) (IntKind.wrap .i64 ((rdD t13 ((rdD p0 t14).2.1)) + 1))) (IntKind.wrap .i64 (t14 + 1)) w38 h (h39.pick [0, 1, 2] (by decide))
      · skip
        refine RunsI.fix 14 false hc35 (by kernel_rfl) (by kernel_rfl) ?_
        refine RunsI.cond false 23 (by kernel_rfl) ?_
        refine RunsI.go 1 [.blk 1, .c 24, .lp 9, .blk 0, .c 25] (by kernel_rfl) ?_
        refine RunsI.go 1 [.c 24, .lp 9, .blk 0, .c 25] (by kernel_rfl) ?_
        refine RunsI.region (by kernel_rfl) ?_
        refine RegI.pure 2 [2, 3, 6, 7, 8] [(2, .pointer (some ⟨b11, 0, none⟩)), (3, .pointer (some ⟨b12, 0, none⟩)), (6, .slice pA0 p0.length pc0), (7, .int .i64 (p0.length : Int)), (8, .int .i64 (IntKind.wrap .i64 (t14 + 1)))] (by kernel_rfl) ?_
        refine RegI.done (by kernel_rfl) ?_
        refine RunsI.go 1 [.c 9, .lp 9, .blk 0, .c 25] (by kernel_rfl) ?_
        refine RunsI.only [2, 3, 6, 7, 8] [(2, .pointer (some ⟨b11, 0, none⟩)), (3, .pointer (some ⟨b12, 0, none⟩)), (6, .slice pA0 p0.length pc0), (7, .int .i64 (p0.length : Int)), (8, .int .i64 (IntKind.wrap .i64 (t14 + 1)))] (by kernel_rfl) (by kernel_rfl) ?_
        exact ih t13 (IntKind.wrap .i64 (t14 + 1)) w30 h (h32.pick [0, 1, 2] (by decide))
    · skip
      refine RunsI.fix 9 false hc15 (by kernel_rfl) (by kernel_rfl) ?_
      refine RunsI.cond false 14 (by kernel_rfl) ?_
      refine RunsI.go 1 [.c 25] (by kernel_rfl) ?_
      refine RunsI.only [2, 3] [(2, .pointer (some ⟨b11, 0, none⟩)), (3, .pointer (some ⟨b12, 0, none⟩))] (by kernel_rfl) (by kernel_rfl) ?_
      exact hk0 t13 w (Option.some.inj h).symm (hH.pick [0, 1] (by decide))
def history_Counts_19.f (K : Nat) (p0 : List (Int × Int × Int × Int × Int × Int)) : Option (List Int) := (history_Counts_19.l0 K p0 K (List.replicate 4 0) 0).bind (fun t44 => cond (Nat.beq t44.length 4) (some t44) none)
set_option maxRecDepth 100000 in
theorem history_Counts_19_ok (K : Nat) (M0 : Nat → Prop) (w0 : World) (pA0 : Option Addr) (pc0 : Nat) (p0 : List (Int × Int × Int × Int × Int × Int)) (ho : ∀ b, M0 b → b < w0.heap.size) (hs0 : Sl (Rp.pair (Rp.int .i64) (Rp.pair (Rp.int .i64) (Rp.pair (Rp.int .i64) (Rp.pair (Rp.int .u16) (Rp.pair (Rp.int .i64) (Rp.int .u8)))))) w0 M0 (.slice pA0 p0.length pc0) p0) {r : (List Int)} (h : history_Counts_19.f K p0 = some r) :
    Calls Tryd.prog 19 #[.slice pA0 p0.length pc0] w0 (history_Counts_19.post M0 w0 r) := by
  unfold history_Counts_19.f at h
  have h0 : Holds M0 w0 w0 [] := Holds.start ho
  have h00 := h0.addSl (Rp.pair (Rp.int .i64) (Rp.pair (Rp.int .i64) (Rp.pair (Rp.int .i64) (Rp.pair (Rp.int .u16) (Rp.pair (Rp.int .i64) (Rp.int .u8)))))) (.slice pA0 p0.length pc0) p0 (hs0.mono (fun _ _ hm => hm.elim id (fun hm => absurd hm (by simp [mines, sl]))))
  have h0 : Holds M0 w0 w0 [sl (Rp.pair (Rp.int .i64) (Rp.pair (Rp.int .i64) (Rp.pair (Rp.int .i64) (Rp.pair (Rp.int .u16) (Rp.pair (Rp.int .i64) (Rp.int .u8)))))) (.slice pA0 p0.length pc0) p0] := h00
  refine calls_of F19 rfl [.slice pA0 p0.length pc0] (by kernel_rfl) ?_
  refine RunsI.go 1 [.c 1, .c 2] (by kernel_rfl) ?_
  refine RunsI.region (by kernel_rfl) ?_
  refine RegI.op (by kernel_rfl) (OpE.box 2 43 (List.flatMap (fun (x : Int) => ([.int .i64 x] : List Value)) (List.replicate 4 0)) h0 (by kernel_rfl) (by kernel_rfl) ?_)
  intro w1 b2 h3 hb4 hn5
  refine RegI.done (by kernel_rfl) ?_
  refine RunsI.go 1 [.c 3, .c 4] (by kernel_rfl) ?_
  refine RunsI.region (by kernel_rfl) ?_
  refine RegI.op (by kernel_rfl) (OpE.box 3 43 (List.flatMap (fun (x : Int) => ([.int .i64 x] : List Value)) (List.replicate 4 0)) h3 (by kernel_rfl) (by kernel_rfl) ?_)
  intro w6 b7 h8 hb9 hn10
  refine RegI.done (by kernel_rfl) ?_
  refine RunsI.go 2 [.c 6, .c 7, .c 25] (by kernel_rfl) ?_
  refine RunsI.region (by kernel_rfl) ?_
  refine RegI.pure 3 [2, 3, 6, 7, 8] [(2, .pointer (some ⟨b2, 0, none⟩)), (3, .pointer (some ⟨b7, 0, none⟩)), (6, .slice pA0 p0.length pc0), (7, .int .i64 (p0.length : Int)), (8, .int .i64 0)] (by kernel_rfl) ?_
  refine RegI.done (by kernel_rfl) ?_
  refine RunsI.go 2 [.c 9, .lp 9, .blk 0, .c 25] (by kernel_rfl) ?_
  obtain ⟨x42, hx43, h⟩ := of_bind h
  refine RunsI.only [2, 3, 6, 7, 8] [(2, .pointer (some ⟨b2, 0, none⟩)), (3, .pointer (some ⟨b7, 0, none⟩)), (6, .slice pA0 p0.length pc0), (7, .int .i64 (p0.length : Int)), (8, .int .i64 0)] (by kernel_rfl) (by kernel_rfl) ?_
  refine history_Counts_19.l0_ok K M0 w0 pA0 pc0 p0 b2 b7 _ x42 ?_ K (List.replicate 4 0) 0 w6 hx43 (h8.pick [1, 2, 0] (by decide))
  · intro t44 w46 hq51 h45
    (try rw [hq51] at h)
    refine RunsI.go 1 [.c 26, .c 27] (by kernel_rfl) ?_
    refine RunsI.region (by kernel_rfl) ?_
    obtain ⟨hc47, h⟩ := of_cond0 h
    refine RegI.op (by kernel_rfl) (OpE.loadBox 22 1 43 b7 0 (.agg (List.flatMap (fun (x : Int) => ([.int .i64 x] : List Value)) t44).toArray) h45 (by kernel_rfl) (by kernel_rfl) rfl (loadV_arr (en := (fun (x : Int) => ([.int .i64 x] : List Value))) (len := 4) (sz := 1) (m := 4) (fun _ => rfl) (by kernel_rfl) (by kernel_rfl) rfl hc47) ?_)
    refine RegI.op (by kernel_rfl) (OpE.storeArrAll (en := (fun (x : Int) => ([.int .i64 x] : List Value))) 0 43 b2 4 1 4 t44 h45 (by kernel_rfl) (by kernel_rfl) rfl (fun _ => rfl) (fun _ => rfl) (by kernel_rfl) rfl (flat_m (sz := 1) (len := 4) (fun _ => rfl) (by kernel_rfl) rfl) hc47 ?_)
    intro w48 h49 hk50
    refine RegI.done (by kernel_rfl) ?_
    refine RunsI.toRet (by kernel_rfl) ?_
    refine RetI.valW [.cell 2 43] [.agg (List.flatMap (fun (x : Int) => ([.int .i64 x] : List Value)) t44).toArray] (.agg (List.flatMap (fun (x : Int) => ([.int .i64 x] : List Value)) t44).toArray) (by kernel_rfl) (ResAt.box 0 43 b2 0 h49 (by kernel_rfl) (by kernel_rfl) rfl (loadV_arr (en := (fun (x : Int) => ([.int .i64 x] : List Value))) (len := 4) (sz := 1) (m := 4) (fun _ => rfl) (by kernel_rfl) (by kernel_rfl) rfl hc47) rfl) (by kernel_rfl) ?_
    obtain rfl := Option.some.inj h
    exact ⟨rfl, h49.below⟩
end

/-! ### slices.Index[[]int,int] (function 91) -/
section
def slices_Index_int_int_91.post (M0 : Nat → Prop) (w0 : World) (r : Int) : Ending → World → Prop := fun e w => e = .returned (.int .i64 r) ∧ Below w0.heap.size w0 w
def slices_Index_int_int_91.l0 (K : Nat) (p0 : List Int) (p1 : Int) : Nat → Int → Option (Lp Int Unit)
  | 0, _ => none
  | k + 1, t1 => cond (decide (t1 < (p0.length : Int))) (cond (inR t1 p0.length) (cond (p1 == (rdD p0 t1)) (some (Lp.ret t1)) (slices_Index_int_int_91.l0 K p0 p1 k (IntKind.wrap .i64 (t1 + 1)))) none) (some (Lp.go ()))
set_option maxRecDepth 100000 in
theorem slices_Index_int_int_91.l0_ok (K : Nat) (M0 : Nat → Prop) (w0 : World) (pA0 : Option Addr) (pc0 : Nat) (p0 : List Int) (p1 : Int) (R : Ending → World → Prop) (x : Lp Int Unit) (hk0 : ∀ (w1 : World), x = Lp.go () → Holds M0 w0 w1 [] → RunsI F91 [.c 25] [] w1 R) (hk1 : ∀ (t10 : Int) (w1 : World), x = Lp.ret t10 → Holds M0 w0 w1 [] → R (.returned (.int .i64 t10)) w1) :
    ∀ (k : Nat) (t1 : Int) (w : World), slices_Index_int_int_91.l0 K p0 p1 k t1 = some x → Holds M0 w0 w [sl (Rp.int .i64) (.slice pA0 p0.length pc0) p0] → RunsI F91 [.c 7, .lp 7, .blk 0, .c 25] [(0, .slice pA0 p0.length pc0), (1, .int .i64 p1), (7, .int .i64 (p0.length : Int)), (8, .int .i64 t1)] w R := by
  intro k
  induction k with
  | zero => intro t1 w h hH; exact absurd h (by simp [slices_Index_int_int_91.l0])
  | succ k ih =>
    intro t1 w h hH
    rw [slices_Index_int_int_91.l0.eq_2] at h
    refine RunsI.go 1 [.c 8, .c 9, .lp 7, .blk 0, .c 25] (by kernel_rfl) ?_
    refine RunsI.region (by kernel_rfl) ?_
    refine RegI.pure 1 [0, 1, 7, 8, 9] [(0, .slice pA0 p0.length pc0), (1, .int .i64 p1), (7, .int .i64 (p0.length : Int)), (8, .int .i64 t1), (9, .bool (decide (t1 < (p0.length : Int))))] (by kernel_rfl) ?_
    refine RegI.done (by kernel_rfl) ?_
    refine RunsI.go 1 [.c 10, .c 13, .lp 7, .blk 0, .c 25] (by kernel_rfl) ?_
    rcases of_cond h with ⟨hc2, h⟩ | ⟨hc2, h⟩
    · skip
      refine RunsI.fix 9 true hc2 (by kernel_rfl) (by kernel_rfl) ?_
      refine RunsI.cond true 11 (by kernel_rfl) ?_
      refine RunsI.go 1 [.c 13, .lp 7, .blk 0, .c 25] (by kernel_rfl) ?_
      refine RunsI.go 3 [.c 16, .c 17, .blk 1, .c 24, .lp 7, .blk 0, .c 25] (by kernel_rfl) ?_
      refine RunsI.region (by kernel_rfl) ?_
      refine RegI.pure 2 [0, 1, 5, 7, 8] [(0, .slice pA0 p0.length pc0), (1, .int .i64 p1), (5, .int .i64 t1), (7, .int .i64 (p0.length : Int)), (8, .int .i64 t1)] (by kernel_rfl) ?_
      refine RegI.done (by kernel_rfl) ?_
      refine RunsI.go 1 [.c 18, .c 19, .blk 1, .c 24, .lp 7, .blk 0, .c 25] (by kernel_rfl) ?_
      refine RunsI.region (by kernel_rfl) ?_
      refine RegI.pure 3 [0, 1, 5, 7, 8, 11, 12, 13] [(0, .slice pA0 p0.length pc0), (1, .int .i64 p1), (5, .int .i64 t1), (7, .int .i64 (p0.length : Int)), (8, .int .i64 t1), (11, .int .i64 p1), (12, .slice pA0 p0.length pc0), (13, .int .i64 t1)] (by kernel_rfl) ?_
      obtain ⟨hc3, h⟩ := of_cond0 h
      refine RegI.op (by kernel_rfl) (OpE.idxSl 14 0 93 t1 hH (by kernel_rfl) rfl (by kernel_rfl) (by kernel_rfl) hc3 ?_)
      intro b4 o5 cs6 hk7 h8
      obtain rfl := hk7
      refine RegI.op (by kernel_rfl) (OpE.loadCel 15 1 3 b4 o5 0 (.int .i64 (rdD p0 t1)) h8 (by kernel_rfl) (by kernel_rfl) rfl (by kernel_rfl) ?_)
      refine RegI.pure 1 [0, 1, 5, 7, 8, 16] [(0, .slice pA0 p0.length pc0), (1, .int .i64 p1), (5, .int .i64 t1), (7, .int .i64 (p0.length : Int)), (8, .int .i64 t1), (16, .bool (p1 == (rdD p0 t1)))] (by kernel_rfl) ?_
      refine RegI.done (by kernel_rfl) ?_
      rcases of_cond h with ⟨hc9, h⟩ | ⟨hc9, h⟩
      · skip
        refine RunsI.fix 16 true hc9 (by kernel_rfl) (by kernel_rfl) ?_
        refine RunsI.cond true 20 (by kernel_rfl) ?_
        refine RunsI.go 1 [.c 21, .c 22, .blk 1, .c 24, .lp 7, .blk 0, .c 25] (by kernel_rfl) ?_
        refine RunsI.region (by kernel_rfl) ?_
        refine RegI.pure 2 [4] [(4, .int .i64 t1)] (by kernel_rfl) ?_
        refine RegI.done (by kernel_rfl) ?_
        refine RunsI.ret (.int .i64 t1) (by kernel_rfl) (by kernel_rfl) ?_
        exact hk1 t1 w (Option.some.inj h).symm (h8.pick [] (by decide))
      · skip
        refine RunsI.fix 16 false hc9 (by kernel_rfl) (by kernel_rfl) ?_
        refine RunsI.cond false 23 (by kernel_rfl) ?_
        refine RunsI.go 1 [.blk 1, .c 24, .lp 7, .blk 0, .c 25] (by kernel_rfl) ?_
        refine RunsI.go 1 [.c 24, .lp 7, .blk 0, .c 25] (by kernel_rfl) ?_
        refine RunsI.region (by kernel_rfl) ?_
        refine RegI.pure 2 [0, 1, 7, 8] [(0, .slice pA0 p0.length pc0), (1, .int .i64 p1), (7, .int .i64 (p0.length : Int)), (8, .int .i64 (IntKind.wrap .i64 (t1 + 1)))] (by kernel_rfl) ?_
        refine RegI.done (by kernel_rfl) ?_
        refine RunsI.go 1 [.c 7, .lp 7, .blk 0, .c 25] (by kernel_rfl) ?_
        refine RunsI.only [0, 1, 7, 8] [(0, .slice pA0 p0.length pc0), (1, .int .i64 p1), (7, .int .i64 (p0.length : Int)), (8, .int .i64 (IntKind.wrap .i64 (t1 + 1)))] (by kernel_rfl) (by kernel_rfl) ?_
        exact ih (IntKind.wrap .i64 (t1 + 1)) w h (h8.pick [0] (by decide))
    · skip
      refine RunsI.fix 9 false hc2 (by kernel_rfl) (by kernel_rfl) ?_
      refine RunsI.cond false 12 (by kernel_rfl) ?_
      refine RunsI.go 1 [.c 25] (by kernel_rfl) ?_
      refine RunsI.only [] [] (by kernel_rfl) (by kernel_rfl) ?_
      exact hk0 w (Option.some.inj h).symm (hH.pick [] (by decide))
def slices_Index_int_int_91.f (K : Nat) (p0 : List Int) (p1 : Int) : Option Int := (slices_Index_int_int_91.l0 K p0 p1 K 0).bind (fun x11 => Lp.elim x11 (fun t15 => some t15) (fun _ => some (-1)))
set_option maxRecDepth 100000 in
theorem slices_Index_int_int_91_ok (K : Nat) (M0 : Nat → Prop) (w0 : World) (pA0 : Option Addr) (pc0 : Nat) (p0 : List Int) (p1 : Int) (ho : ∀ b, M0 b → b < w0.heap.size) (hs0 : Sl (Rp.int .i64) w0 M0 (.slice pA0 p0.length pc0) p0) {r : Int} (h : slices_Index_int_int_91.f K p0 p1 = some r) :
    Calls Tryd.prog 91 #[.slice pA0 p0.length pc0, .int .i64 p1] w0 (slices_Index_int_int_91.post M0 w0 r) := by
  unfold slices_Index_int_int_91.f at h
  have h0 : Holds M0 w0 w0 [] := Holds.start ho
  have h00 := h0.addSl (Rp.int .i64) (.slice pA0 p0.length pc0) p0 (hs0.mono (fun _ _ hm => hm.elim id (fun hm => absurd hm (by simp [mines, sl]))))
  have h0 : Holds M0 w0 w0 [sl (Rp.int .i64) (.slice pA0 p0.length pc0) p0] := h00
  refine calls_of F91 rfl [.slice pA0 p0.length pc0, .int .i64 p1] (by kernel_rfl) ?_
  refine RunsI.go 1 [.c 1, .c 2] (by kernel_rfl) ?_
  refine RunsI.region (by kernel_rfl) ?_
  refine RegI.pure 1 [0, 1] [(0, .slice pA0 p0.length pc0), (1, .int .i64 p1)] (by kernel_rfl) ?_
  refine RegI.done (by kernel_rfl) ?_
  refine RunsI.go 2 [.c 4, .c 5, .c 25] (by kernel_rfl) ?_
  refine RunsI.region (by kernel_rfl) ?_
  refine RegI.pure 3 [0, 1, 7, 8] [(0, .slice pA0 p0.length pc0), (1, .int .i64 p1), (7, .int .i64 (p0.length : Int)), (8, .int .i64 0)] (by kernel_rfl) ?_
  refine RegI.done (by kernel_rfl) ?_
  refine RunsI.go 2 [.c 7, .lp 7, .blk 0, .c 25] (by kernel_rfl) ?_
  obtain ⟨x11, hx12, h⟩ := of_bind h
  refine RunsI.only [0, 1, 7, 8] [(0, .slice pA0 p0.length pc0), (1, .int .i64 p1), (7, .int .i64 (p0.length : Int)), (8, .int .i64 0)] (by kernel_rfl) (by kernel_rfl) ?_
  refine slices_Index_int_int_91.l0_ok K M0 w0 pA0 pc0 p0 p1 _ x11 ?_ ?_ K 0 w0 hx12 (h0.pick [0] (by decide))
  · intro w14 hq18 h13
    (try rw [hq18] at h)
    dsimp only [Lp.elim] at h
    refine RunsI.go 1 [.c 26, .c 27] (by kernel_rfl) ?_
    refine RunsI.region (by kernel_rfl) ?_
    refine RegI.pure 1 [4] [(4, .int .i64 (-1))] (by kernel_rfl) ?_
    refine RegI.done (by kernel_rfl) ?_
    refine RunsI.ret (.int .i64 (-1)) (by kernel_rfl) (by kernel_rfl) ?_
    obtain rfl := Option.some.inj h
    exact ⟨rfl, h13.below⟩
  · intro t15 w17 hq19 h16
    (try rw [hq19] at h)
    dsimp only [Lp.elim] at h
    obtain rfl := Option.some.inj h
    exact ⟨rfl, h16.below⟩
end

/-! ### slices.Contains[[]int,int] (function 50) -/
section
def slices_Contains_int_int_50.post (M0 : Nat → Prop) (w0 : World) (r : Bool) : Ending → World → Prop := fun e w => e = .returned (.bool r) ∧ Below w0.heap.size w0 w
def slices_Contains_int_int_50.f (K : Nat) (p0 : List Int) (p1 : Int) : Option Bool := (slices_Index_int_int_91.f K p0 p1).bind fun t5 => some (decide (t5 ≥ 0))
set_option maxRecDepth 100000 in
theorem slices_Contains_int_int_50_ok (K : Nat) (M0 : Nat → Prop) (w0 : World) (pA0 : Option Addr) (pc0 : Nat) (p0 : List Int) (p1 : Int) (ho : ∀ b, M0 b → b < w0.heap.size) (hs0 : Sl (Rp.int .i64) w0 M0 (.slice pA0 p0.length pc0) p0) {r : Bool} (h : slices_Contains_int_int_50.f K p0 p1 = some r) :
    Calls Tryd.prog 50 #[.slice pA0 p0.length pc0, .int .i64 p1] w0 (slices_Contains_int_int_50.post M0 w0 r) := by
  unfold slices_Contains_int_int_50.f at h
  have h0 : Holds M0 w0 w0 [] := Holds.start ho
  have h00 := h0.addSl (Rp.int .i64) (.slice pA0 p0.length pc0) p0 (hs0.mono (fun _ _ hm => hm.elim id (fun hm => absurd hm (by simp [mines, sl]))))
  have h0 : Holds M0 w0 w0 [sl (Rp.int .i64) (.slice pA0 p0.length pc0) p0] := h00
  refine calls_of F50 rfl [.slice pA0 p0.length pc0, .int .i64 p1] (by kernel_rfl) ?_
  refine RunsI.go 1 [.c 1, .c 2] (by kernel_rfl) ?_
  refine RunsI.region (by kernel_rfl) ?_
  refine RegI.pure 1 [0, 1] [(0, .slice pA0 p0.length pc0), (1, .int .i64 p1)] (by kernel_rfl) ?_
  refine RegI.done (by kernel_rfl) ?_
  refine RunsI.go 1 [.c 3, .c 4] (by kernel_rfl) ?_
  refine RunsI.region (by kernel_rfl) ?_
  refine RegI.pure 2 [5, 6] [(5, .slice pA0 p0.length pc0), (6, .int .i64 p1)] (by kernel_rfl) ?_
  obtain ⟨t5, hg4, h⟩ := of_bind h
  refine RegI.op (by kernel_rfl) (OpE.call 7 (by kernel_rfl) 91 #[.slice pA0 p0.length pc0, .int .i64 p1] (by kernel_rfl) ((slices_Index_int_int_91_ok K _ w0  pA0 pc0 p0 p1 h0.old' (h0.get 0 rfl) hg4).mono ?_))
  rintro _ w1 ⟨rfl, hb2⟩
  refine ⟨_, rfl, ?_⟩
  have h3 := h0.call hb2
  refine RegI.pure 2 [4] [(4, .bool (decide (t5 ≥ 0)))] (by kernel_rfl) ?_
  refine RegI.done (by kernel_rfl) ?_
  refine RunsI.ret (.bool (decide (t5 ≥ 0))) (by kernel_rfl) (by kernel_rfl) ?_
  obtain rfl := Option.some.inj h
  exact ⟨rfl, h3.below⟩
end

/-! ### charabanc/history.Meets (function 21) -/
section
def history_Meets_21.post (M0 : Nat → Prop) (w0 : World) (r : Bool) : Ending → World → Prop := fun e w => e = .returned (.bool r) ∧ Below w0.heap.size w0 w
def history_Meets_21.l0 (K : Nat) (p0 : List (Int × Int × Int × Int × Int × Int)) : Nat → (List Int) → Int → Option (List Int)
  | 0, _, _ => none
  | k + 1, t12, t14 => cond (decide (t14 < 4)) (cond (inR t14 4) (cond (inR t14 t12.length) (history_Meets_21.l0 K p0 k (stD t12 t14 (-1)) (IntKind.wrap .i64 (t14 + 1))) none) none) (some t12)
set_option maxRecDepth 100000 in
theorem history_Meets_21.l0_ok (K : Nat) (M0 : Nat → Prop) (w0 : World) (pA0 : Option Addr) (pc0 : Nat) (p0 : List (Int × Int × Int × Int × Int × Int)) (b11 : Nat) (b13 : Nat) (R : Ending → World → Prop) (x : (List Int)) (hk0 : ∀ (t21 : List Int) (w1 : World), x = t21 → Holds M0 w0 w1 [sl (Rp.pair (Rp.int .i64) (Rp.pair (Rp.int .i64) (Rp.pair (Rp.int .i64) (Rp.pair (Rp.int .u16) (Rp.pair (Rp.int .i64) (Rp.int .u8)))))) (.slice pA0 p0.length pc0) p0, box b11 43 (List.flatMap (fun (x : Int) => ([.int .i64 x] : List Value)) t21), box b13 43 (List.flatMap (fun (x : Int) => ([.int .i64 x] : List Value)) (List.replicate 4 0))] → RunsI F21 [.c 21] [(0, .slice pA0 p0.length pc0), (3, .pointer (some ⟨b11, 0, none⟩)), (4, .pointer (some ⟨b13, 0, none⟩))] w1 R) :
    ∀ (k : Nat) (t12 : List Int) (t14 : Int) (w : World), history_Meets_21.l0 K p0 k t12 t14 = some x → Holds M0 w0 w [sl (Rp.pair (Rp.int .i64) (Rp.pair (Rp.int .i64) (Rp.pair (Rp.int .i64) (Rp.pair (Rp.int .u16) (Rp.pair (Rp.int .i64) (Rp.int .u8)))))) (.slice pA0 p0.length pc0) p0, box b11 43 (List.flatMap (fun (x : Int) => ([.int .i64 x] : List Value)) t12), box b13 43 (List.flatMap (fun (x : Int) => ([.int .i64 x] : List Value)) (List.replicate 4 0))] → RunsI F21 [.c 9, .lp 9, .blk 0, .c 21] [(0, .slice pA0 p0.length pc0), (3, .pointer (some ⟨b11, 0, none⟩)), (4, .pointer (some ⟨b13, 0, none⟩)), (10, .int .i64 t14)] w R := by
  intro k
  induction k with
  | zero => intro t12 t14 w h hH; exact absurd h (by simp [history_Meets_21.l0])
  | succ k ih =>
    intro t12 t14 w h hH
    rw [history_Meets_21.l0.eq_2] at h
    refine RunsI.go 1 [.c 10, .c 11, .lp 9, .blk 0, .c 21] (by kernel_rfl) ?_
    refine RunsI.region (by kernel_rfl) ?_
    refine RegI.pure 1 [0, 3, 4, 10, 11] [(0, .slice pA0 p0.length pc0), (3, .pointer (some ⟨b11, 0, none⟩)), (4, .pointer (some ⟨b13, 0, none⟩)), (10, .int .i64 t14), (11, .bool (decide (t14 < 4)))] (by kernel_rfl) ?_
    refine RegI.done (by kernel_rfl) ?_
    refine RunsI.go 1 [.c 12, .c 15, .lp 9, .blk 0, .c 21] (by kernel_rfl) ?_
    rcases of_cond h with ⟨hc15, h⟩ | ⟨hc15, h⟩
    · skip
      refine RunsI.fix 11 true hc15 (by kernel_rfl) (by kernel_rfl) ?_
      refine RunsI.cond true 13 (by kernel_rfl) ?_
      refine RunsI.go 1 [.c 15, .lp 9, .blk 0, .c 21] (by kernel_rfl) ?_
      refine RunsI.go 3 [.c 18, .c 19, .blk 1, .c 20, .lp 9, .blk 0, .c 21] (by kernel_rfl) ?_
      refine RunsI.region (by kernel_rfl) ?_
      refine RegI.pure 2 [0, 3, 4, 5, 10] [(0, .slice pA0 p0.length pc0), (3, .pointer (some ⟨b11, 0, none⟩)), (4, .pointer (some ⟨b13, 0, none⟩)), (5, .int .i64 t14), (10, .int .i64 t14)] (by kernel_rfl) ?_
      refine RegI.done (by kernel_rfl) ?_
      refine RunsI.region (by kernel_rfl) ?_
      refine RegI.pure 1 [0, 3, 4, 10, 13] [(0, .slice pA0 p0.length pc0), (3, .pointer (some ⟨b11, 0, none⟩)), (4, .pointer (some ⟨b13, 0, none⟩)), (10, .int .i64 t14), (13, .int .i64 t14)] (by kernel_rfl) ?_
      obtain ⟨hc16, h⟩ := of_cond0 h
      refine RegI.op (by kernel_rfl) (OpE.run 14 (by kernel_rfl) (run_idxArr (T := 43) (b := b11) (o := 0) (ix := t14) (len := 4) (s := 1) (by kernel_rfl) (by kernel_rfl) hc16) ?_)
      obtain ⟨hc17, h⟩ := of_cond0 h
      refine RegI.op (by kernel_rfl) (OpE.storeArr (en := (fun (x : Int) => ([.int .i64 x] : List Value))) 1 3 b11 1 t14 (.int .i64 (-1)) (xs := t12) (-1) (o := 0 + (Int.toNat t14) * 1) hH (by kernel_rfl) (by kernel_rfl) rfl (fun _ => rfl) (by omega) (by kernel_rfl) (by kernel_rfl) hc17 ?_)
      intro w18 h19 hk20
      refine RegI.done (by kernel_rfl) ?_
      refine RunsI.go 1 [.c 20, .lp 9, .blk 0, .c 21] (by kernel_rfl) ?_
      refine RunsI.region (by kernel_rfl) ?_
      refine RegI.pure 2 [0, 3, 4, 10] [(0, .slice pA0 p0.length pc0), (3, .pointer (some ⟨b11, 0, none⟩)), (4, .pointer (some ⟨b13, 0, none⟩)), (10, .int .i64 (IntKind.wrap .i64 (t14 + 1)))] (by kernel_rfl) ?_
      refine RegI.done (by kernel_rfl) ?_
      refine RunsI.go 1 [.c 9, .lp 9, .blk 0, .c 21] (by kernel_rfl) ?_
      refine RunsI.only [0, 3, 4, 10] [(0, .slice pA0 p0.length pc0), (3, .pointer (some ⟨b11, 0, none⟩)), (4, .pointer (some ⟨b13, 0, none⟩)), (10, .int .i64 (IntKind.wrap .i64 (t14 + 1)))] (by kernel_rfl) (by kernel_rfl) ?_
      exact ih (stD t12 t14 (-1)) (IntKind.wrap .i64 (t14 + 1)) w18 h (h19.pick [0, 1, 2] (by decide))
    · skip
      refine RunsI.fix 11 false hc15 (by kernel_rfl) (by kernel_rfl) ?_
      refine RunsI.cond false 14 (by kernel_rfl) ?_
      refine RunsI.go 1 [.c 21] (by kernel_rfl) ?_
      refine RunsI.only [0, 3, 4] [(0, .slice pA0 p0.length pc0), (3, .pointer (some ⟨b11, 0, none⟩)), (4, .pointer (some ⟨b13, 0, none⟩))] (by kernel_rfl) (by kernel_rfl) ?_
      exact hk0 t12 w (Option.some.inj h).symm (hH.pick [0, 1, 2] (by decide))
def history_Meets_21.l1 (K : Nat) (p0 : List (Int × Int × Int × Int × Int × Int)) : Nat → (List Int) → (List Int) → Int → Option ((List Int) × (List Int))
  | 0, _, _, _ => none
  | k + 1, t28, t30, t31 => cond (decide (t31 < (p0.length : Int))) (cond (inR t31 p0.length) ((history_known_49.f K ((rdD p0 t31).2.1)).bind fun t51 => cond (!t51) (history_Meets_21.l1 K p0 k t28 t30 (IntKind.wrap .i64 (t31 + 1))) (cond (inR ((rdD p0 t31).2.1) 4) (cond (inR ((rdD p0 t31).2.1) t28.length) (cond (decide ((rdD t28 ((rdD p0 t31).2.1)) < 0)) (cond (inR ((rdD p0 t31).2.1) t30.length) (history_Meets_21.l1 K p0 k (stD t28 ((rdD p0 t31).2.1) t31) (stD t30 ((rdD p0 t31).2.1) t31) (IntKind.wrap .i64 (t31 + 1))) none) (cond (inR ((rdD p0 t31).2.1) t30.length) (history_Meets_21.l1 K p0 k t28 (stD t30 ((rdD p0 t31).2.1) t31) (IntKind.wrap .i64 (t31 + 1))) none)) none) none)) none) (some (t28, t30))
set_option maxRecDepth 100000 in
theorem history_Meets_21.l1_ok (K : Nat) (M0 : Nat → Prop) (w0 : World) (pA0 : Option Addr) (pc0 : Nat) (p0 : List (Int × Int × Int × Int × Int × Int)) (b27 : Nat) (b29 : Nat) (R : Ending → World → Prop) (x : (List Int) × (List Int)) (hk0 : ∀ (t67 : List Int) (t68 : List Int) (w1 : World), x = (t67, t68) → Holds M0 w0 w1 [box b27 43 (List.flatMap (fun (x : Int) => ([.int .i64 x] : List Value)) t67), box b29 43 (List.flatMap (fun (x : Int) => ([.int .i64 x] : List Value)) t68)] → RunsI F21 [.c 50] [(3, .pointer (some ⟨b27, 0, none⟩)), (4, .pointer (some ⟨b29, 0, none⟩))] w1 R) :
    ∀ (k : Nat) (t28 : List Int) (t30 : List Int) (t31 : Int) (w : World), history_Meets_21.l1 K p0 k t28 t30 t31 = some x → Holds M0 w0 w [box b27 43 (List.flatMap (fun (x : Int) => ([.int .i64 x] : List Value)) t28), box b29 43 (List.flatMap (fun (x : Int) => ([.int .i64 x] : List Value)) t30), sl (Rp.pair (Rp.int .i64) (Rp.pair (Rp.int .i64) (Rp.pair (Rp.int .i64) (Rp.pair (Rp.int .u16) (Rp.pair (Rp.int .i64) (Rp.int .u8)))))) (.slice pA0 p0.length pc0) p0] → RunsI F21 [.c 26, .lp 26, .blk 2, .c 50] [(3, .pointer (some ⟨b27, 0, none⟩)), (4, .pointer (some ⟨b29, 0, none⟩)), (16, .slice pA0 p0.length pc0), (17, .int .i64 (p0.length : Int)), (18, .int .i64 t31)] w R := by
  intro k
  induction k with
  | zero => intro t28 t30 t31 w h hH; exact absurd h (by simp [history_Meets_21.l1])
  | succ k ih =>
    intro t28 t30 t31 w h hH
    rw [history_Meets_21.l1.eq_2] at h
    refine RunsI.go 1 [.c 27, .c 28, .lp 26, .blk 2, .c 50] (by kernel_rfl) ?_
    refine RunsI.region (by kernel_rfl) ?_
    refine RegI.pure 1 [3, 4, 16, 17, 18, 19] [(3, .pointer (some ⟨b27, 0, none⟩)), (4, .pointer (some ⟨b29, 0, none⟩)), (16, .slice pA0 p0.length pc0), (17, .int .i64 (p0.length : Int)), (18, .int .i64 t31), (19, .bool (decide (t31 < (p0.length : Int))))] (by kernel_rfl) ?_
    refine RegI.done (by kernel_rfl) ?_
    refine RunsI.go 1 [.c 29, .c 32, .lp 26, .blk 2, .c 50] (by kernel_rfl) ?_
    rcases of_cond h with ⟨hc32, h⟩ | ⟨hc32, h⟩
    · skip
      refine RunsI.fix 19 true hc32 (by kernel_rfl) (by kernel_rfl) ?_
      refine RunsI.cond true 30 (by kernel_rfl) ?_
      refine RunsI.go 1 [.c 32, .lp 26, .blk 2, .c 50] (by kernel_rfl) ?_
      refine RunsI.go 3 [.c 35, .c 36, .blk 3, .c 49, .lp 26, .blk 2, .c 50] (by kernel_rfl) ?_
      refine RunsI.region (by kernel_rfl) ?_
      refine RegI.pure 1 [3, 4, 16, 17, 18, 20] [(3, .pointer (some ⟨b27, 0, none⟩)), (4, .pointer (some ⟨b29, 0, none⟩)), (16, .slice pA0 p0.length pc0), (17, .int .i64 (p0.length : Int)), (18, .int .i64 t31), (20, .int .i64 t31)] (by kernel_rfl) ?_
      obtain ⟨hc33, h⟩ := of_cond0 h
      refine RegI.op (by kernel_rfl) (OpE.idxSl 21 2 26 t31 hH (by kernel_rfl) rfl (by kernel_rfl) (by kernel_rfl) hc33 ?_)
      intro b34 o35 cs36 hk37 h38
      obtain ⟨_, _, rfl, rfl, ⟨_, _, rfl, rfl, ⟨_, _, rfl, rfl, ⟨_, _, rfl, rfl, ⟨_, _, rfl, rfl, rfl⟩⟩⟩⟩⟩ := hk37
      refine RegI.op (by kernel_rfl) (OpE.loadCel 22 3 54 b34 o35 0 (.agg #[.int .i64 ((rdD p0 t31).1), .int .i64 ((rdD p0 t31).2.1), .int .i64 ((rdD p0 t31).2.2.1), .int .u16 ((rdD p0 t31).2.2.2.1), .int .i64 ((rdD p0 t31).2.2.2.2.1), .int .u8 ((rdD p0 t31).2.2.2.2.2)]) h38 (by kernel_rfl) (by kernel_rfl) rfl (by kernel_rfl) ?_)
      refine RegI.op (by kernel_rfl) (OpE.box 7 54 [.int .i64 0, .int .i64 0, .int .i64 0, .int .u16 0, .int .i64 0, .int .u8 0] h38 (by kernel_rfl) (by kernel_rfl) ?_)
      intro w39 b40 h41 hb42 hn43
      refine RegI.pure 1 [3, 4, 6, 7, 16, 17, 18, 22] [(3, .pointer (some ⟨b27, 0, none⟩)), (4, .pointer (some ⟨b29, 0, none⟩)), (6, .int .i64 t31), (7, .pointer (some ⟨b40, 0, none⟩)), (16, .slice pA0 p0.length pc0), (17, .int .i64 (p0.length : Int)), (18, .int .i64 t31), (22, .agg #[.int .i64 ((rdD p0 t31).1), .int .i64 ((rdD p0 t31).2.1), .int .i64 ((rdD p0 t31).2.2.1), .int .u16 ((rdD p0 t31).2.2.2.1), .int .i64 ((rdD p0 t31).2.2.2.2.1), .int .u8 ((rdD p0 t31).2.2.2.2.2)])] (by kernel_rfl) ?_
      refine RegI.op (by kernel_rfl) (OpE.storeBox 4 54 b40 0 (.agg #[.int .i64 ((rdD p0 t31).1), .int .i64 ((rdD p0 t31).2.1), .int .i64 ((rdD p0 t31).2.2.1), .int .u16 ((rdD p0 t31).2.2.2.1), .int .i64 ((rdD p0 t31).2.2.2.2.1), .int .u8 ((rdD p0 t31).2.2.2.2.2)]) [.int .i64 ((rdD p0 t31).1), .int .i64 ((rdD p0 t31).2.1), .int .i64 ((rdD p0 t31).2.2.1), .int .u16 ((rdD p0 t31).2.2.2.1), .int .i64 ((rdD p0 t31).2.2.2.2.1), .int .u8 ((rdD p0 t31).2.2.2.2.2)] h41 (by kernel_rfl) (by kernel_rfl) rfl (by kernel_rfl) (by kernel_rfl) (by kernel_rfl) ?_)
      intro w44 h45 hk46
      refine RegI.done (by kernel_rfl) ?_
      refine RunsI.go 2 [.c 38, .c 39, .c 42, .blk 3, .c 49, .lp 26, .blk 2, .c 50] (by kernel_rfl) ?_
      refine RunsI.region (by kernel_rfl) ?_
      refine RegI.pure 1 [3, 4, 6, 7, 16, 17, 18, 23] [(3, .pointer (some ⟨b27, 0, none⟩)), (4, .pointer (some ⟨b29, 0, none⟩)), (6, .int .i64 t31), (7, .pointer (some ⟨b40, 0, none⟩)), (16, .slice pA0 p0.length pc0), (17, .int .i64 (p0.length : Int)), (18, .int .i64 t31), (23, .pointer (some ⟨b40, 1, none⟩))] (by kernel_rfl) ?_
      refine RegI.op (by kernel_rfl) (OpE.loadBox 24 4 3 b40 1 (.int .i64 ((rdD p0 t31).2.1)) h45 (by kernel_rfl) (by kernel_rfl) rfl (by kernel_rfl) ?_)
      obtain ⟨t51, hg50, h⟩ := of_bind h
      refine RegI.op (by kernel_rfl) (OpE.call 25 (by kernel_rfl) 49 #[.int .i64 ((rdD p0 t31).2.1)] (by kernel_rfl) ((history_known_49_ok K _ w44  ((rdD p0 t31).2.1) h45.old' hg50).mono ?_))
      rintro _ w47 ⟨rfl, hb48⟩
      refine ⟨_, rfl, ?_⟩
      have h49 := h45.call hb48
      refine RegI.pure 1 [3, 4, 6, 7, 16, 17, 18, 26] [(3, .pointer (some ⟨b27, 0, none⟩)), (4, .pointer (some ⟨b29, 0, none⟩)), (6, .int .i64 t31), (7, .pointer (some ⟨b40, 0, none⟩)), (16, .slice pA0 p0.length pc0), (17, .int .i64 (p0.length : Int)), (18, .int .i64 t31), (26, .bool (!t51))] (by kernel_rfl) ?_
      refine RegI.done (by kernel_rfl) ?_
      rcases of_cond h with ⟨hc52, h⟩ | ⟨hc52, h⟩
      · skip
        refine RunsI.fix 26 true hc52 (by kernel_rfl) (by kernel_rfl) ?_
        refine RunsI.cond true 40 (by kernel_rfl) ?_
        refine RunsI.go 1 [.c 49, .lp 26, .blk 2, .c 50] (by kernel_rfl) ?_
        refine RunsI.region (by kernel_rfl) ?_
        refine RegI.pure 2 [3, 4, 16, 17, 18] [(3, .pointer (some ⟨b27, 0, none⟩)), (4, .pointer (some ⟨b29, 0, none⟩)), (16, .slice pA0 p0.length pc0), (17, .int .i64 (p0.length : Int)), (18, .int .i64 (IntKind.wrap .i64 (t31 + 1)))] (by kernel_rfl) ?_
        refine RegI.done (by kernel_rfl) ?_
        refine RunsI.go 1 [.c 26, .lp 26, .blk 2, .c 50] (by kernel_rfl) ?_
        refine RunsI.only [3, 4, 16, 17, 18] [(3, .pointer (some ⟨b27, 0, none⟩)), (4, .pointer (some ⟨b29, 0, none⟩)), (16, .slice pA0 p0.length pc0), (17, .int .i64 (p0.length : Int)), (18, .int .i64 (IntKind.wrap .i64 (t31 + 1)))] (by kernel_rfl) (by kernel_rfl) ?_
        exact ih t28 t30 (IntKind.wrap .i64 (t31 + 1)) w47 h (h49.pick [0, 1, 2] (by decide))
      · skip
        refine RunsI.fix 26 false hc52 (by kernel_rfl) (by kernel_rfl) ?_
        refine RunsI.cond false 41 (by kernel_rfl) ?_
        refine RunsI.go 1 [.c 42, .blk 3, .c 49, .lp 26, .blk 2, .c 50] (by kernel_rfl) ?_
        refine RunsI.go 2 [.c 44, .c 45, .c 48, .blk 3, .c 49, .lp 26, .blk 2, .c 50] (by kernel_rfl) ?_
        refine RunsI.region (by kernel_rfl) ?_
        refine RegI.pure 1 [3, 4, 6, 7, 16, 17, 18, 27] [(3, .pointer (some ⟨b27, 0, none⟩)), (4, .pointer (some ⟨b29, 0, none⟩)), (6, .int .i64 t31), (7, .pointer (some ⟨b40, 0, none⟩)), (16, .slice pA0 p0.length pc0), (17, .int .i64 (p0.length : Int)), (18, .int .i64 t31), (27, .pointer (some ⟨b40, 1, none⟩))] (by kernel_rfl) ?_
        refine RegI.op (by kernel_rfl) (OpE.loadBox 28 4 3 b40 1 (.int .i64 ((rdD p0 t31).2.1)) h49 (by kernel_rfl) (by kernel_rfl) rfl (by kernel_rfl) ?_)
        obtain ⟨hc53, h⟩ := of_cond0 h
        refine RegI.op (by kernel_rfl) (OpE.run 29 (by kernel_rfl) (run_idxArr (T := 43) (b := b27) (o := 0) (ix := ((rdD p0 t31).2.1)) (len := 4) (s := 1) (by kernel_rfl) (by kernel_rfl) hc53) ?_)
        obtain ⟨hc54, h⟩ := of_cond0 h
        refine RegI.op (by kernel_rfl) (OpE.loadArr 30 0 3 (fun (x : Int) => ([.int .i64 x] : List Value)) t28 0 1 ((rdD p0 t31).2.1) (.int .i64 (rdD t28 ((rdD p0 t31).2.1))) (o := 0 + (Int.toNat ((rdD p0 t31).2.1)) * 1) h49 (by kernel_rfl) rfl (fun _ => rfl) (by kernel_rfl) (by omega) hc54 (fun _ => by kernel_rfl) ?_)
        refine RegI.pure 1 [3, 4, 6, 7, 16, 17, 18, 31] [(3, .pointer (some ⟨b27, 0, none⟩)), (4, .pointer (some ⟨b29, 0, none⟩)), (6, .int .i64 t31), (7, .pointer (some ⟨b40, 0, none⟩)), (16, .slice pA0 p0.length pc0), (17, .int .i64 (p0.length : Int)), (18, .int .i64 t31), (31, .bool (decide ((rdD t28 ((rdD p0 t31).2.1)) < 0)))] (by kernel_rfl) ?_
        refine RegI.done (by kernel_rfl) ?_
        rcases of_cond h with ⟨hc55, h⟩ | ⟨hc55, h⟩
        · skip
          refine RunsI.fix 31 true hc55 (by kernel_rfl) (by kernel_rfl) ?_
          refine RunsI.cond true 46 (by kernel_rfl) ?_
          refine RunsI.region (by kernel_rfl) ?_
          refine RegI.pure 1 [3, 4, 6, 7, 16, 17, 18, 32] [(3, .pointer (some ⟨b27, 0, none⟩)), (4, .pointer (some ⟨b29, 0, none⟩)), (6, .int .i64 t31), (7, .pointer (some ⟨b40, 0, none⟩)), (16, .slice pA0 p0.length pc0), (17, .int .i64 (p0.length : Int)), (18, .int .i64 t31), (32, .pointer (some ⟨b40, 1, none⟩))] (by kernel_rfl) ?_
          refine RegI.op (by kernel_rfl) (OpE.loadBox 33 4 3 b40 1 (.int .i64 ((rdD p0 t31).2.1)) h49 (by kernel_rfl) (by kernel_rfl) rfl (by kernel_rfl) ?_)
          refine RegI.pure 1 [3, 4, 6, 7, 16, 17, 18, 33, 34] [(3, .pointer (some ⟨b27, 0, none⟩)), (4, .pointer (some ⟨b29, 0, none⟩)), (6, .int .i64 t31), (7, .pointer (some ⟨b40, 0, none⟩)), (16, .slice pA0 p0.length pc0), (17, .int .i64 (p0.length : Int)), (18, .int .i64 t31), (33, .int .i64 ((rdD p0 t31).2.1)), (34, .int .i64 t31)] (by kernel_rfl) ?_
          refine RegI.op (by kernel_rfl) (OpE.run 35 (by kernel_rfl) (run_idxArr (T := 43) (b := b27) (o := 0) (ix := ((rdD p0 t31).2.1)) (len := 4) (s := 1) (by kernel_rfl) (by kernel_rfl) hc53) ?_)
          refine RegI.op (by kernel_rfl) (OpE.storeArr (en := (fun (x : Int) => ([.int .i64 x] : List Value))) 0 3 b27 1 ((rdD p0 t31).2.1) (.int .i64 t31) (xs := t28) t31 (o := 0 + (Int.toNat ((rdD p0 t31).2.1)) * 1) h49 (by kernel_rfl) (by kernel_rfl) rfl (fun _ => rfl) (by omega) (by kernel_rfl) (by kernel_rfl) hc54 ?_)
          intro w56 h57 hk58
          refine RegI.done (by kernel_rfl) ?_
          refine RunsI.region (by kernel_rfl) ?_
          refine RegI.pure 1 [3, 4, 6, 16, 17, 18, 36] [(3, .pointer (some ⟨b27, 0, none⟩)), (4, .pointer (some ⟨b29, 0, none⟩)), (6, .int .i64 t31), (16, .slice pA0 p0.length pc0), (17, .int .i64 (p0.length : Int)), (18, .int .i64 t31), (36, .pointer (some ⟨b40, 1, none⟩))] (by kernel_rfl) ?_
          refine RegI.op (by kernel_rfl) (OpE.loadBox 37 4 3 b40 1 (.int .i64 ((rdD p0 t31).2.1)) h57 (by kernel_rfl) (by kernel_rfl) rfl (by kernel_rfl) ?_)
          refine RegI.pure 1 [3, 4, 16, 17, 18, 37, 38] [(3, .pointer (some ⟨b27, 0, none⟩)), (4, .pointer (some ⟨b29, 0, none⟩)), (16, .slice pA0 p0.length pc0), (17, .int .i64 (p0.length : Int)), (18, .int .i64 t31), (37, .int .i64 ((rdD p0 t31).2.1)), (38, .int .i64 t31)] (by kernel_rfl) ?_
          refine RegI.op (by kernel_rfl) (OpE.run 39 (by kernel_rfl) (run_idxArr (T := 43) (b := b29) (o := 0) (ix := ((rdD p0 t31).2.1)) (len := 4) (s := 1) (by kernel_rfl) (by kernel_rfl) hc53) ?_)
          obtain ⟨hc59, h⟩ := of_cond0 h
          refine RegI.op (by kernel_rfl) (OpE.storeArr (en := (fun (x : Int) => ([.int .i64 x] : List Value))) 1 3 b29 1 ((rdD p0 t31).2.1) (.int .i64 t31) (xs := t30) t31 (o := 0 + (Int.toNat ((rdD p0 t31).2.1)) * 1) h57 (by kernel_rfl) (by kernel_rfl) rfl (fun _ => rfl) (by omega) (by kernel_rfl) (by kernel_rfl) hc59 ?_)
          intro w60 h61 hk62
          refine RegI.done (by kernel_rfl) ?_
          refine RunsI.go 1 [.c 49, .lp 26, .blk 2, .c 50] (by kernel_rfl) ?_
          refine RunsI.region (by kernel_rfl) ?_
          refine RegI.pure 2 [3, 4, 16, 17, 18] [(3, .pointer (some ⟨b27, 0, none⟩)), (4, .pointer (some ⟨b29, 0, none⟩)), (16, .slice pA0 p0.length pc0), (17, .int .i64 (p0.length : Int)), (18, .int .i64 (IntKind.wrap .i64 (t31 + 1)))] (by kernel_rfl) ?_
          refine RegI.done (by kernel_rfl) ?_
          refine RunsI.go 1 [.c 26, .lp 26, .blk 2, .c 50] (by kernel_rfl) ?_
          refine RunsI.only [3, 4, 16, 17, 18] [(3, .pointer (some ⟨b27, 0, none⟩)), (4, .pointer (some ⟨b29, 0, none⟩)), (16, .slice pA0 p0.length pc0), (17, .int .i64 (p0.length : Int)), (18, .int .i64 (IntKind.wrap .i64 (t31 + 1)))] (by kernel_rfl) (by kernel_rfl) ?_
          exact ih (stD t28 ((rdD p0 t31).2.1) t31) (stD t30 ((rdD p0 t31).2.1) t31) (IntKind.wrap .i64 (t31 + 1)) w60 h (h61.pick [0, 1, 2] (by decide))
        · skip
          refine RunsI.fix 31 false hc55 (by kernel_rfl) (by kernel_rfl) ?_
          refine RunsI.cond false 47 (by kernel_rfl) ?_
          refine RunsI.go 1 [.c 48, .blk 3, .c 49, .lp 26, .blk 2, .c 50] (by kernel_rfl) ?_
          refine RunsI.region (by kernel_rfl) ?_
          refine RegI.pure 1 [3, 4, 6, 16, 17, 18, 36] [(3, .pointer (some ⟨b27, 0, none⟩)), (4, .pointer (some ⟨b29, 0, none⟩)), (6, .int .i64 t31), (16, .slice pA0 p0.length pc0), (17, .int .i64 (p0.length : Int)), (18, .int .i64 t31), (36, .pointer (some ⟨b40, 1, none⟩))] (by kernel_rfl) ?_
          refine RegI.op (by kernel_rfl) (OpE.loadBox 37 4 3 b40 1 (.int .i64 ((rdD p0 t31).2.1)) h49 (by kernel_rfl) (by kernel_rfl) rfl (by kernel_rfl) ?_)
          refine RegI.pure 1 [3, 4, 16, 17, 18, 37, 38] [(3, .pointer (some ⟨b27, 0, none⟩)), (4, .pointer (some ⟨b29, 0, none⟩)), (16, .slice pA0 p0.length pc0), (17, .int .i64 (p0.length : Int)), (18, .int .i64 t31), (37, .int .i64 ((rdD p0 t31).2.1)), (38, .int .i64 t31)] (by kernel_rfl) ?_
          refine RegI.op (by kernel_rfl) (OpE.run 39 (by kernel_rfl) (run_idxArr (T := 43) (b := b29) (o := 0) (ix := ((rdD p0 t31).2.1)) (len := 4) (s := 1) (by kernel_rfl) (by kernel_rfl) hc53) ?_)
          obtain ⟨hc63, h⟩ := of_cond0 h
          refine RegI.op (by kernel_rfl) (OpE.storeArr (en := (fun (x : Int) => ([.int .i64 x] : List Value))) 1 3 b29 1 ((rdD p0 t31).2.1) (.int .i64 t31) (xs := t30) t31 (o := 0 + (Int.toNat ((rdD p0 t31).2.1)) * 1) h49 (by kernel_rfl) (by kernel_rfl) rfl (fun _ => rfl) (by omega) (by kernel_rfl) (by kernel_rfl) hc63 ?_)
          intro w64 h65 hk66
          refine RegI.done (by kernel_rfl) ?_
          refine RunsI.go 1 [.c 49, .lp 26, .blk 2, .c 50] (by kernel_rfl) ?_
          refine RunsI.region (by kernel_rfl) ?_
          refine RegI.pure 2 [3, 4, 16, 17, 18] [(3, .pointer (some ⟨b27, 0, none⟩)), (4, .pointer (some ⟨b29, 0, none⟩)), (16, .slice pA0 p0.length pc0), (17, .int .i64 (p0.length : Int)), (18, .int .i64 (IntKind.wrap .i64 (t31 + 1)))] (by kernel_rfl) ?_
          refine RegI.done (by kernel_rfl) ?_
          refine RunsI.go 1 [.c 26, .lp 26, .blk 2, .c 50] (by kernel_rfl) ?_
          refine RunsI.only [3, 4, 16, 17, 18] [(3, .pointer (some ⟨b27, 0, none⟩)), (4, .pointer (some ⟨b29, 0, none⟩)), (16, .slice pA0 p0.length pc0), (17, .int .i64 (p0.length : Int)), (18, .int .i64 (IntKind.wrap .i64 (t31 + 1)))] (by kernel_rfl) (by kernel_rfl) ?_
          exact ih t28 (stD t30 ((rdD p0 t31).2.1) t31) (IntKind.wrap .i64 (t31 + 1)) w64 h (h65.pick [0, 1, 2] (by decide))
    · skip
      refine RunsI.fix 19 false hc32 (by kernel_rfl) (by kernel_rfl) ?_
      refine RunsI.cond false 31 (by kernel_rfl) ?_
      refine RunsI.go 1 [.c 50] (by kernel_rfl) ?_
      refine RunsI.only [3, 4] [(3, .pointer (some ⟨b27, 0, none⟩)), (4, .pointer (some ⟨b29, 0, none⟩))] (by kernel_rfl) (by kernel_rfl) ?_
      exact hk0 t28 t30 w (Option.some.inj h).symm (hH.pick [0, 1] (by decide))
def history_Meets_21.l2 (K : Nat) (p0 : List (Int × Int × Int × Int × Int × Int)) (t89 : List Int) (t91 : List Int) (t92 : Int) : Nat → Int → Option (Lp Unit Unit)
  | 0, _ => none
  | k + 1, t93 => cond (decide (t93 ≤ 3)) (cond (inR t92 4) (cond (inR t92 t89.length) (cond (inR t93 4) (cond (inR t93 t89.length) (Let (fun (t112 : Bool) => cond t112 (some (Lp.ret ())) (history_Meets_21.l2 K p0 t89 t91 t92 k (IntKind.wrap .i64 (t93 + 1)))) (fun j115 => cond (decide ((rdD t89 t92) < (rdD t89 t93))) (cond (inR t92 t91.length) (cond (inR t93 t91.length) (j115 (decide ((rdD t91 t92) > (rdD t91 t93)))) none) none) (j115 false))) none) none) none) none) (some (Lp.go ()))
set_option maxRecDepth 100000 in
theorem history_Meets_21.l2_ok (K : Nat) (M0 : Nat → Prop) (w0 : World) (pA0 : Option Addr) (pc0 : Nat) (p0 : List (Int × Int × Int × Int × Int × Int)) (t89 : List Int) (t91 : List Int) (t92 : Int) (b88 : Nat) (b90 : Nat) (R : Ending → World → Prop) (x : Lp Unit Unit) (hk0 : ∀ (w1 : World), x = Lp.go () → Holds M0 w0 w1 [box b88 43 (List.flatMap (fun (x : Int) => ([.int .i64 x] : List Value)) t89), box b90 43 (List.flatMap (fun (x : Int) => ([.int .i64 x] : List Value)) t91)] → RunsI F21 [.c 91, .lp 63, .blk 4, .c 92] [(3, .pointer (some ⟨b88, 0, none⟩)), (4, .pointer (some ⟨b90, 0, none⟩)), (8, .int .i64 t92)] w1 R) (hk1 : ∀ (w1 : World), x = Lp.ret () → Holds M0 w0 w1 [] → R (.returned (.bool true)) w1) :
    ∀ (k : Nat) (t93 : Int) (w : World), history_Meets_21.l2 K p0 t89 t91 t92 k t93 = some x → Holds M0 w0 w [box b88 43 (List.flatMap (fun (x : Int) => ([.int .i64 x] : List Value)) t89), box b90 43 (List.flatMap (fun (x : Int) => ([.int .i64 x] : List Value)) t91)] → RunsI F21 [.c 75, .lp 75, .blk 6, .blk 5, .c 91, .lp 63, .blk 4, .c 92] [(3, .pointer (some ⟨b88, 0, none⟩)), (4, .pointer (some ⟨b90, 0, none⟩)), (8, .int .i64 t92), (9, .int .i64 t93)] w R := by
  intro k
  induction k with
  | zero => intro t93 w h hH; exact absurd h (by simp [history_Meets_21.l2])
  | succ k ih =>
    intro t93 w h hH
    rw [history_Meets_21.l2.eq_2] at h
    refine RunsI.go 1 [.c 76, .c 81, .lp 75, .blk 6, .blk 5, .c 91, .lp 63, .blk 4, .c 92] (by kernel_rfl) ?_
    refine RunsI.go 1 [.c 77, .c 78, .c 81, .lp 75, .blk 6, .blk 5, .c 91, .lp 63, .blk 4, .c 92] (by kernel_rfl) ?_
    refine RunsI.region (by kernel_rfl) ?_
    refine RegI.pure 2 [3, 4, 8, 9, 48] [(3, .pointer (some ⟨b88, 0, none⟩)), (4, .pointer (some ⟨b90, 0, none⟩)), (8, .int .i64 t92), (9, .int .i64 t93), (48, .bool (decide (t93 ≤ 3)))] (by kernel_rfl) ?_
    refine RegI.done (by kernel_rfl) ?_
    rcases of_cond h with ⟨hc94, h⟩ | ⟨hc94, h⟩
    · skip
      refine RunsI.fix 48 true hc94 (by kernel_rfl) (by kernel_rfl) ?_
      refine RunsI.cond true 79 (by kernel_rfl) ?_
      refine RunsI.go 1 [.c 81, .lp 75, .blk 6, .blk 5, .c 91, .lp 63, .blk 4, .c 92] (by kernel_rfl) ?_
      refine RunsI.go 3 [.c 84, .c 85, .blk 7, .c 90, .lp 75, .blk 6, .blk 5, .c 91, .lp 63, .blk 4, .c 92] (by kernel_rfl) ?_
      refine RunsI.any 16 (by kernel_rfl) (by kernel_rfl) (by kernel_rfl) (Kp ([] : List Nat) (World.drew w)) ?_
      have h96 := hH.drew
      generalize World.drew w = w95 at h96 ⊢
      have hS97 := Kp.refl ([] : List Nat) w95
      refine AnyE.pure 0 51 (.int .i64 t92) (by kernel_rfl) hS97 (fun _ => by kernel_rfl) ?_
      obtain ⟨hc99, h⟩ := of_cond0 h
      refine AnyE.run 1 52 (.pointer (some ⟨b88, 0 + (Int.toNat t92) * 1, none⟩)) (by kernel_rfl) hS97 (fun _ hk => run_idxArr (T := 43) (b := b88) (o := 0) (ix := t92) (len := 4) (s := 1) (by kernel_rfl) (by kernel_rfl) hc99) ?_
      obtain ⟨hc100, h⟩ := of_cond0 h
      refine AnyE.loadArr 2 53 0 3 (fun (x : Int) => ([.int .i64 x] : List Value)) t89 0 1 t92 (.int .i64 (rdD t89 t92)) [] (o := 0 + (Int.toNat t92) * 1) h96 rfl (by kernel_rfl) hS97 rfl rfl (fun _ => rfl) (by kernel_rfl) (by omega) hc100 (fun _ => by kernel_rfl) ?_
      refine AnyE.pure 3 54 (.int .i64 t93) (by kernel_rfl) hS97 (fun _ => by kernel_rfl) ?_
      obtain ⟨hc101, h⟩ := of_cond0 h
      refine AnyE.run 4 55 (.pointer (some ⟨b88, 0 + (Int.toNat t93) * 1, none⟩)) (by kernel_rfl) hS97 (fun _ hk => run_idxArr (T := 43) (b := b88) (o := 0) (ix := t93) (len := 4) (s := 1) (by kernel_rfl) (by kernel_rfl) hc101) ?_
      obtain ⟨hc102, h⟩ := of_cond0 h
      refine AnyE.loadArr 5 56 0 3 (fun (x : Int) => ([.int .i64 x] : List Value)) t89 0 1 t93 (.int .i64 (rdD t89 t93)) [] (o := 0 + (Int.toNat t93) * 1) h96 rfl (by kernel_rfl) hS97 rfl rfl (fun _ => rfl) (by kernel_rfl) (by omega) hc102 (fun _ => by kernel_rfl) ?_
      refine AnyE.pure 6 57 (.bool (decide ((rdD t89 t92) < (rdD t89 t93)))) (by kernel_rfl) hS97 (fun _ => by kernel_rfl) ?_
      refine AnyE.pure 7 58 (.bool (decide ((rdD t89 t92) < (rdD t89 t93)))) (by kernel_rfl) hS97 (fun _ => by kernel_rfl) ?_
      obtain ⟨j115, hJ116, h⟩ := of_let h
      have hj117 : ∀ (t112 : Bool) (w114 : World), j115 t112 = some x → Holds M0 w0 w114 [box b88 43 (List.flatMap (fun (x : Int) => ([.int .i64 x] : List Value)) t89), box b90 43 (List.flatMap (fun (x : Int) => ([.int .i64 x] : List Value)) t91)] → RunsI F21 [.c 85, .blk 7, .c 90, .lp 75, .blk 6, .blk 5, .c 91, .lp 63, .blk 4, .c 92] [(3, .pointer (some ⟨b88, 0, none⟩)), (4, .pointer (some ⟨b90, 0, none⟩)), (8, .int .i64 t92), (9, .int .i64 t93), (66, .bool t112)] w114 R := by
        intro t112 w114 h h113
        rw [hJ116] at h
        clear hJ116
        dsimp only at h
        rcases of_cond h with ⟨hc118, h⟩ | ⟨hc118, h⟩
        · skip
          refine RunsI.fix 66 true hc118 (by kernel_rfl) (by kernel_rfl) ?_
          refine RunsI.cond true 86 (by kernel_rfl) ?_
          refine RunsI.go 1 [.c 87, .c 88, .blk 7, .c 90, .lp 75, .blk 6, .blk 5, .c 91, .lp 63, .blk 4, .c 92] (by kernel_rfl) ?_
          refine RunsI.region (by kernel_rfl) ?_
          refine RegI.pure 1 [2] [(2, .bool true)] (by kernel_rfl) ?_
          refine RegI.done (by kernel_rfl) ?_
          refine RunsI.ret (.bool true) (by kernel_rfl) (by kernel_rfl) ?_
          exact hk1 w114 (Option.some.inj h).symm (h113.pick [] (by decide))
        · skip
          refine RunsI.fix 66 false hc118 (by kernel_rfl) (by kernel_rfl) ?_
          refine RunsI.cond false 89 (by kernel_rfl) ?_
          refine RunsI.go 1 [.blk 7, .c 90, .lp 75, .blk 6, .blk 5, .c 91, .lp 63, .blk 4, .c 92] (by kernel_rfl) ?_
          refine RunsI.go 1 [.c 90, .lp 75, .blk 6, .blk 5, .c 91, .lp 63, .blk 4, .c 92] (by kernel_rfl) ?_
          refine RunsI.region (by kernel_rfl) ?_
          refine RegI.pure 3 [3, 4, 8, 9] [(3, .pointer (some ⟨b88, 0, none⟩)), (4, .pointer (some ⟨b90, 0, none⟩)), (8, .int .i64 t92), (9, .int .i64 (IntKind.wrap .i64 (t93 + 1)))] (by kernel_rfl) ?_
          refine RegI.done (by kernel_rfl) ?_
          refine RunsI.go 1 [.c 75, .lp 75, .blk 6, .blk 5, .c 91, .lp 63, .blk 4, .c 92] (by kernel_rfl) ?_
          refine RunsI.only [3, 4, 8, 9] [(3, .pointer (some ⟨b88, 0, none⟩)), (4, .pointer (some ⟨b90, 0, none⟩)), (8, .int .i64 t92), (9, .int .i64 (IntKind.wrap .i64 (t93 + 1)))] (by kernel_rfl) (by kernel_rfl) ?_
          exact ih (IntKind.wrap .i64 (t93 + 1)) w114 h (h113.pick [0, 1] (by decide))
      clear hJ116
      rcases of_cond h with ⟨hc103, h⟩ | ⟨hc103, h⟩
      · skip
        refine AnyE.fix 58 true hc103 (by kernel_rfl) (by kernel_rfl) ?_
        refine AnyE.pure 8 59 (.int .i64 t92) (by kernel_rfl) hS97 (fun _ => by kernel_rfl) ?_
        refine AnyE.run 9 60 (.pointer (some ⟨b90, 0 + (Int.toNat t92) * 1, none⟩)) (by kernel_rfl) hS97 (fun _ hk => run_idxArr (T := 43) (b := b90) (o := 0) (ix := t92) (len := 4) (s := 1) (by kernel_rfl) (by kernel_rfl) hc99) ?_
        obtain ⟨hc104, h⟩ := of_cond0 h
        refine AnyE.loadArr 10 61 1 3 (fun (x : Int) => ([.int .i64 x] : List Value)) t91 0 1 t92 (.int .i64 (rdD t91 t92)) [] (o := 0 + (Int.toNat t92) * 1) h96 rfl (by kernel_rfl) hS97 rfl rfl (fun _ => rfl) (by kernel_rfl) (by omega) hc104 (fun _ => by kernel_rfl) ?_
        refine AnyE.pure 11 62 (.int .i64 t93) (by kernel_rfl) hS97 (fun _ => by kernel_rfl) ?_
        refine AnyE.run 12 63 (.pointer (some ⟨b90, 0 + (Int.toNat t93) * 1, none⟩)) (by kernel_rfl) hS97 (fun _ hk => run_idxArr (T := 43) (b := b90) (o := 0) (ix := t93) (len := 4) (s := 1) (by kernel_rfl) (by kernel_rfl) hc101) ?_
        obtain ⟨hc105, h⟩ := of_cond0 h
        refine AnyE.loadArr 13 64 1 3 (fun (x : Int) => ([.int .i64 x] : List Value)) t91 0 1 t93 (.int .i64 (rdD t91 t93)) [] (o := 0 + (Int.toNat t93) * 1) h96 rfl (by kernel_rfl) hS97 rfl rfl (fun _ => rfl) (by kernel_rfl) (by omega) hc105 (fun _ => by kernel_rfl) ?_
        refine AnyE.pure 14 65 (.bool (decide ((rdD t91 t92) > (rdD t91 t93)))) (by kernel_rfl) hS97 (fun _ => by kernel_rfl) ?_
        refine AnyE.pure 15 66 (.bool (decide ((rdD t91 t92) > (rdD t91 t93)))) (by kernel_rfl) hS97 (fun _ => by kernel_rfl) ?_
        refine AnyE.done (by kernel_rfl) (fun w106 hu107 => ?_)
        have h108 := h96.call hu107
        refine RunsI.only [3, 4, 8, 9, 66] [(3, .pointer (some ⟨b88, 0, none⟩)), (4, .pointer (some ⟨b90, 0, none⟩)), (8, .int .i64 t92), (9, .int .i64 t93), (66, .bool (decide ((rdD t91 t92) > (rdD t91 t93))))] (by kernel_rfl) (by kernel_rfl) ?_
        refine RunsI.only [3, 4, 8, 9, 66] [(3, .pointer (some ⟨b88, 0, none⟩)), (4, .pointer (some ⟨b90, 0, none⟩)), (8, .int .i64 t92), (9, .int .i64 t93), (66, .bool (decide ((rdD t91 t92) > (rdD t91 t93))))] (by kernel_rfl) (by kernel_rfl) ?_
        exact hj117 (decide ((rdD t91 t92) > (rdD t91 t93))) w106 h (h108.pick [0, 1] (by decide))
      · skip
        refine AnyE.fix 58 false hc103 (by kernel_rfl) (by kernel_rfl) ?_
        refine AnyE.no 8 59 (by kernel_rfl) hS97 ?_
        refine AnyE.no 9 60 (by kernel_rfl) hS97 ?_
        refine AnyE.no 10 61 (by kernel_rfl) hS97 ?_
        refine AnyE.no 11 62 (by kernel_rfl) hS97 ?_
        refine AnyE.no 12 63 (by kernel_rfl) hS97 ?_
        refine AnyE.no 13 64 (by kernel_rfl) hS97 ?_
        refine AnyE.no 14 65 (by kernel_rfl) hS97 ?_
        refine AnyE.pure 15 66 (.bool false) (by kernel_rfl) hS97 (fun _ => by kernel_rfl) ?_
        refine AnyE.done (by kernel_rfl) (fun w109 hu110 => ?_)
        have h111 := h96.call hu110
        refine RunsI.only [3, 4, 8, 9, 66] [(3, .pointer (some ⟨b88, 0, none⟩)), (4, .pointer (some ⟨b90, 0, none⟩)), (8, .int .i64 t92), (9, .int .i64 t93), (66, .bool false)] (by kernel_rfl) (by kernel_rfl) ?_
        refine RunsI.only [3, 4, 8, 9, 66] [(3, .pointer (some ⟨b88, 0, none⟩)), (4, .pointer (some ⟨b90, 0, none⟩)), (8, .int .i64 t92), (9, .int .i64 t93), (66, .bool false)] (by kernel_rfl) (by kernel_rfl) ?_
        exact hj117 false w109 h (h111.pick [0, 1] (by decide))
    · skip
      refine RunsI.fix 48 false hc94 (by kernel_rfl) (by kernel_rfl) ?_
      refine RunsI.cond false 80 (by kernel_rfl) ?_
      refine RunsI.go 2 [.c 91, .lp 63, .blk 4, .c 92] (by kernel_rfl) ?_
      refine RunsI.only [3, 4, 8] [(3, .pointer (some ⟨b88, 0, none⟩)), (4, .pointer (some ⟨b90, 0, none⟩)), (8, .int .i64 t92)] (by kernel_rfl) (by kernel_rfl) ?_
      exact hk0 w (Option.some.inj h).symm (hH.pick [0, 1] (by decide))
def history_Meets_21.l3 (K : Nat) (p0 : List (Int × Int × Int × Int × Int × Int)) (t83 : List Int) (t85 : List Int) : Nat → Int → Option (Lp Unit Unit)
  | 0, _ => none
  | k + 1, t86 => cond (decide (t86 ≤ 3)) ((history_Meets_21.l2 K p0 t83 t85 t86 K 1).bind (fun x119 => Lp.elim x119 (fun _ => some (Lp.ret ())) (fun _ => history_Meets_21.l3 K p0 t83 t85 k (IntKind.wrap .i64 (t86 + 1))))) (some (Lp.go ()))
set_option maxRecDepth 100000 in
theorem history_Meets_21.l3_ok (K : Nat) (M0 : Nat → Prop) (w0 : World) (pA0 : Option Addr) (pc0 : Nat) (p0 : List (Int × Int × Int × Int × Int × Int)) (t83 : List Int) (t85 : List Int) (b82 : Nat) (b84 : Nat) (R : Ending → World → Prop) (x : Lp Unit Unit) (hk0 : ∀ (w1 : World), x = Lp.go () → Holds M0 w0 w1 [] → RunsI F21 [.c 92] [] w1 R) (hk1 : ∀ (w1 : World), x = Lp.ret () → Holds M0 w0 w1 [] → R (.returned (.bool true)) w1) :
    ∀ (k : Nat) (t86 : Int) (w : World), history_Meets_21.l3 K p0 t83 t85 k t86 = some x → Holds M0 w0 w [box b82 43 (List.flatMap (fun (x : Int) => ([.int .i64 x] : List Value)) t83), box b84 43 (List.flatMap (fun (x : Int) => ([.int .i64 x] : List Value)) t85)] → RunsI F21 [.c 63, .lp 63, .blk 4, .c 92] [(3, .pointer (some ⟨b82, 0, none⟩)), (4, .pointer (some ⟨b84, 0, none⟩)), (8, .int .i64 t86)] w R := by
  intro k
  induction k with
  | zero => intro t86 w h hH; exact absurd h (by simp [history_Meets_21.l3])
  | succ k ih =>
    intro t86 w h hH
    rw [history_Meets_21.l3.eq_2] at h
    refine RunsI.go 1 [.c 64, .c 69, .lp 63, .blk 4, .c 92] (by kernel_rfl) ?_
    refine RunsI.go 1 [.c 65, .c 66, .c 69, .lp 63, .blk 4, .c 92] (by kernel_rfl) ?_
    refine RunsI.region (by kernel_rfl) ?_
    refine RegI.pure 2 [3, 4, 8, 44] [(3, .pointer (some ⟨b82, 0, none⟩)), (4, .pointer (some ⟨b84, 0, none⟩)), (8, .int .i64 t86), (44, .bool (decide (t86 ≤ 3)))] (by kernel_rfl) ?_
    refine RegI.done (by kernel_rfl) ?_
    rcases of_cond h with ⟨hc87, h⟩ | ⟨hc87, h⟩
    · skip
      refine RunsI.fix 44 true hc87 (by kernel_rfl) (by kernel_rfl) ?_
      refine RunsI.cond true 67 (by kernel_rfl) ?_
      refine RunsI.go 1 [.c 69, .lp 63, .blk 4, .c 92] (by kernel_rfl) ?_
      refine RunsI.go 3 [.c 72, .c 73, .blk 5, .c 91, .lp 63, .blk 4, .c 92] (by kernel_rfl) ?_
      refine RunsI.region (by kernel_rfl) ?_
      refine RegI.pure 1 [3, 4, 8, 9] [(3, .pointer (some ⟨b82, 0, none⟩)), (4, .pointer (some ⟨b84, 0, none⟩)), (8, .int .i64 t86), (9, .int .i64 1)] (by kernel_rfl) ?_
      refine RegI.done (by kernel_rfl) ?_
      refine RunsI.go 2 [.c 75, .lp 75, .blk 6, .blk 5, .c 91, .lp 63, .blk 4, .c 92] (by kernel_rfl) ?_
      obtain ⟨x119, hx120, h⟩ := of_bind h
      refine RunsI.only [3, 4, 8, 9] [(3, .pointer (some ⟨b82, 0, none⟩)), (4, .pointer (some ⟨b84, 0, none⟩)), (8, .int .i64 t86), (9, .int .i64 1)] (by kernel_rfl) (by kernel_rfl) ?_
      refine history_Meets_21.l2_ok K M0 w0 pA0 pc0 p0 t83 t85 t86 b82 b84 _ x119 ?_ ?_ K 1 w hx120 (hH.pick [0, 1] (by decide))
      · intro w122 hq131 h121
        (try rw [hq131] at h)
        dsimp only [Lp.elim] at h
        refine RunsI.region (by kernel_rfl) ?_
        refine RegI.pure 3 [3, 4, 8] [(3, .pointer (some ⟨b82, 0, none⟩)), (4, .pointer (some ⟨b84, 0, none⟩)), (8, .int .i64 (IntKind.wrap .i64 (t86 + 1)))] (by kernel_rfl) ?_
        refine RegI.done (by kernel_rfl) ?_
        refine RunsI.go 1 [.c 63, .lp 63, .blk 4, .c 92] (by kernel_rfl) ?_
        refine RunsI.only [3, 4, 8] [(3, .pointer (some ⟨b82, 0, none⟩)), (4, .pointer (some ⟨b84, 0, none⟩)), (8, .int .i64 (IntKind.wrap .i64 (t86 + 1)))] (by kernel_rfl) (by kernel_rfl) ?_
        exact ih (IntKind.wrap .i64 (t86 + 1)) w122 h (h121.pick [0, 1] (by decide))
      · intro w124 hq132 h123
        (try rw [hq132] at h)
        dsimp only [Lp.elim] at h
        exact hk1 w124 (Option.some.inj h).symm (h123.pick [] (by decide))
    · skip
      refine RunsI.fix 44 false hc87 (by kernel_rfl) (by kernel_rfl) ?_
      refine RunsI.cond false 68 (by kernel_rfl) ?_
      refine RunsI.go 1 [.c 92] (by kernel_rfl) ?_
      refine RunsI.only [] [] (by kernel_rfl) (by kernel_rfl) ?_
      exact hk0 w (Option.some.inj h).symm (hH.pick [] (by decide))
def history_Meets_21.f (K : Nat) (p0 : List (Int × Int × Int × Int × Int × Int)) : Option Bool := (history_Meets_21.l0 K p0 K (List.replicate 4 0) 0).bind (fun t24 => (history_Meets_21.l1 K p0 K t24 (List.replicate 4 0) 0).bind (fun yx69 => cond (Nat.beq yx69.1.length 4) ((slices_Contains_int_int_50.f K (cutL yx69.1 1 4) (-1)).bind fun t80 => cond t80 (some false) ((history_Meets_21.l3 K p0 yx69.1 yx69.2 K 1).bind (fun x125 => Lp.elim x125 (fun _ => some true) (fun _ => some false)))) none))
set_option maxRecDepth 100000 in
theorem history_Meets_21_ok (K : Nat) (M0 : Nat → Prop) (w0 : World) (pA0 : Option Addr) (pc0 : Nat) (p0 : List (Int × Int × Int × Int × Int × Int)) (ho : ∀ b, M0 b → b < w0.heap.size) (hs0 : Sl (Rp.pair (Rp.int .i64) (Rp.pair (Rp.int .i64) (Rp.pair (Rp.int .i64) (Rp.pair (Rp.int .u16) (Rp.pair (Rp.int .i64) (Rp.int .u8)))))) w0 M0 (.slice pA0 p0.length pc0) p0) {r : Bool} (h : history_Meets_21.f K p0 = some r) :
    Calls Tryd.prog 21 #[.slice pA0 p0.length pc0] w0 (history_Meets_21.post M0 w0 r) := by
  unfold history_Meets_21.f at h
  have h0 : Holds M0 w0 w0 [] := Holds.start ho
  have h00 := h0.addSl (Rp.pair (Rp.int .i64) (Rp.pair (Rp.int .i64) (Rp.pair (Rp.int .i64) (Rp.pair (Rp.int .u16) (Rp.pair (Rp.int .i64) (Rp.int .u8)))))) (.slice pA0 p0.length pc0) p0 (hs0.mono (fun _ _ hm => hm.elim id (fun hm => absurd hm (by simp [mines, sl]))))
  have h0 : Holds M0 w0 w0 [sl (Rp.pair (Rp.int .i64) (Rp.pair (Rp.int .i64) (Rp.pair (Rp.int .i64) (Rp.pair (Rp.int .u16) (Rp.pair (Rp.int .i64) (Rp.int .u8)))))) (.slice pA0 p0.length pc0) p0] := h00
  refine calls_of F21 rfl [.slice pA0 p0.length pc0] (by kernel_rfl) ?_
  refine RunsI.go 1 [.c 1, .c 2] (by kernel_rfl) ?_
  refine RunsI.region (by kernel_rfl) ?_
  refine RegI.pure 1 [0] [(0, .slice pA0 p0.length pc0)] (by kernel_rfl) ?_
  refine RegI.done (by kernel_rfl) ?_
  refine RunsI.go 1 [.c 3, .c 4] (by kernel_rfl) ?_
  refine RunsI.region (by kernel_rfl) ?_
  refine RegI.op (by kernel_rfl) (OpE.box 3 43 (List.flatMap (fun (x : Int) => ([.int .i64 x] : List Value)) (List.replicate 4 0)) h0 (by kernel_rfl) (by kernel_rfl) ?_)
  intro w1 b2 h3 hb4 hn5
  refine RegI.op (by kernel_rfl) (OpE.box 4 43 (List.flatMap (fun (x : Int) => ([.int .i64 x] : List Value)) (List.replicate 4 0)) h3 (by kernel_rfl) (by kernel_rfl) ?_)
  intro w6 b7 h8 hb9 hn10
  refine RegI.done (by kernel_rfl) ?_
  refine RunsI.go 2 [.c 6, .c 7, .c 21] (by kernel_rfl) ?_
  refine RunsI.region (by kernel_rfl) ?_
  refine RegI.pure 1 [0, 3, 4, 10] [(0, .slice pA0 p0.length pc0), (3, .pointer (some ⟨b2, 0, none⟩)), (4, .pointer (some ⟨b7, 0, none⟩)), (10, .int .i64 0)] (by kernel_rfl) ?_
  refine RegI.done (by kernel_rfl) ?_
  refine RunsI.go 2 [.c 9, .lp 9, .blk 0, .c 21] (by kernel_rfl) ?_
  obtain ⟨x22, hx23, h⟩ := of_bind h
  refine RunsI.only [0, 3, 4, 10] [(0, .slice pA0 p0.length pc0), (3, .pointer (some ⟨b2, 0, none⟩)), (4, .pointer (some ⟨b7, 0, none⟩)), (10, .int .i64 0)] (by kernel_rfl) (by kernel_rfl) ?_
  refine history_Meets_21.l0_ok K M0 w0 pA0 pc0 p0 b2 b7 _ x22 ?_ K (List.replicate 4 0) 0 w6 hx23 (h8.pick [0, 1, 2] (by decide))
  · intro t24 w26 hq133 h25
    (try rw [hq133] at h)
    refine RunsI.go 2 [.c 23, .c 24, .c 50] (by kernel_rfl) ?_
    refine RunsI.region (by kernel_rfl) ?_
    refine RegI.pure 3 [3, 4, 16, 17, 18] [(3, .pointer (some ⟨b2, 0, none⟩)), (4, .pointer (some ⟨b7, 0, none⟩)), (16, .slice pA0 p0.length pc0), (17, .int .i64 (p0.length : Int)), (18, .int .i64 0)] (by kernel_rfl) ?_
    refine RegI.done (by kernel_rfl) ?_
    refine RunsI.go 2 [.c 26, .lp 26, .blk 2, .c 50] (by kernel_rfl) ?_
    obtain ⟨x69, hx70, h⟩ := of_bind h
    refine RunsI.only [3, 4, 16, 17, 18] [(3, .pointer (some ⟨b2, 0, none⟩)), (4, .pointer (some ⟨b7, 0, none⟩)), (16, .slice pA0 p0.length pc0), (17, .int .i64 (p0.length : Int)), (18, .int .i64 0)] (by kernel_rfl) (by kernel_rfl) ?_
    refine history_Meets_21.l1_ok K M0 w0 pA0 pc0 p0 b2 b7 _ x69 ?_ K t24 (List.replicate 4 0) 0 w26 hx70 (h25.pick [1, 2, 0] (by decide))
    · intro t71 t72 w74 hq134 h73
      (try rw [hq134] at h)
      dsimp only at h
      refine RunsI.go 2 [.c 52, .c 53, .c 58] (by kernel_rfl) ?_
      refine RunsI.region (by kernel_rfl) ?_
      refine RegI.op (by kernel_rfl) (OpE.run 41 (by kernel_rfl) (run_cutArr (T := 43) (b := b2) (lo := (some 1)) (hi := none) (len := 4) (sz := 1) (by kernel_rfl) (by kernel_rfl) (by kernel_rfl)) ?_)
      obtain ⟨hc75, h⟩ := of_cond0 h
      obtain ⟨t80, hg79, h⟩ := of_bind h
      refine RegI.only [3, 4, 41] [(3, .pointer (some ⟨b2, 0, none⟩)), (4, .pointer (some ⟨b7, 0, none⟩)), (41, (slicedAt ⟨b2, 0, none⟩ (Int.toNat 1) (Int.toNat 4) 4 1))] (by kernel_rfl) (by kernel_rfl) ?_
      rw [slArr_eq (b := b2) (xs := t71) (lo := 1) (hi' := 4) hc75 (by kernel_rfl)]
      refine RegI.op (by kernel_rfl) (OpE.call 42 (by kernel_rfl) 50 #[.slice (some (if 4 = Int.toNat 1 then ⟨b2, 0, none⟩ else (⟨b2, 0, none⟩ : Addr).add (Int.toNat 1 * 1))) ((cutL t71 1 4).length) (4 - Int.toNat 1), .int .i64 (-1)] (by kernel_rfl) ((slices_Contains_int_int_50_ok K (fun _ => False) w74  (some (if 4 = Int.toNat 1 then ⟨b2, 0, none⟩ else (⟨b2, 0, none⟩ : Addr).add (Int.toNat 1 * 1))) (4 - Int.toNat 1) (cutL t71 1 4) (-1) (fun _ hf => hf.elim) (h73.slArr 0 rfl 1 4 hc75 (by kernel_rfl) (by decide)) hg79).mono ?_))
      rintro _ w76 ⟨rfl, hb77⟩
      refine ⟨_, rfl, ?_⟩
      have h78 := h73.call hb77
      refine RegI.done (by kernel_rfl) ?_
      rcases of_cond h with ⟨hc81, h⟩ | ⟨hc81, h⟩
      · skip
        refine RunsI.fix 42 true hc81 (by kernel_rfl) (by kernel_rfl) ?_
        refine RunsI.cond true 54 (by kernel_rfl) ?_
        refine RunsI.go 1 [.c 55, .c 56, .c 58] (by kernel_rfl) ?_
        refine RunsI.region (by kernel_rfl) ?_
        refine RegI.pure 1 [2] [(2, .bool false)] (by kernel_rfl) ?_
        refine RegI.done (by kernel_rfl) ?_
        refine RunsI.ret (.bool false) (by kernel_rfl) (by kernel_rfl) ?_
        obtain rfl := Option.some.inj h
        exact ⟨rfl, h78.below⟩
      · skip
        refine RunsI.fix 42 false hc81 (by kernel_rfl) (by kernel_rfl) ?_
        refine RunsI.cond false 57 (by kernel_rfl) ?_
        refine RunsI.go 1 [.c 58] (by kernel_rfl) ?_
        refine RunsI.go 2 [.c 60, .c 61, .c 92] (by kernel_rfl) ?_
        refine RunsI.region (by kernel_rfl) ?_
        refine RegI.pure 1 [3, 4, 8] [(3, .pointer (some ⟨b2, 0, none⟩)), (4, .pointer (some ⟨b7, 0, none⟩)), (8, .int .i64 1)] (by kernel_rfl) ?_
        refine RegI.done (by kernel_rfl) ?_
        refine RunsI.go 2 [.c 63, .lp 63, .blk 4, .c 92] (by kernel_rfl) ?_
        obtain ⟨x125, hx126, h⟩ := of_bind h
        refine RunsI.only [3, 4, 8] [(3, .pointer (some ⟨b2, 0, none⟩)), (4, .pointer (some ⟨b7, 0, none⟩)), (8, .int .i64 1)] (by kernel_rfl) (by kernel_rfl) ?_
        refine history_Meets_21.l3_ok K M0 w0 pA0 pc0 p0 t71 t72 b2 b7 _ x125 ?_ ?_ K 1 w76 hx126 (h78.pick [0, 1] (by decide))
        · intro w128 hq135 h127
          (try rw [hq135] at h)
          dsimp only [Lp.elim] at h
          refine RunsI.go 1 [.c 93, .c 94] (by kernel_rfl) ?_
          refine RunsI.region (by kernel_rfl) ?_
          refine RegI.pure 1 [2] [(2, .bool false)] (by kernel_rfl) ?_
          refine RegI.done (by kernel_rfl) ?_
          refine RunsI.ret (.bool false) (by kernel_rfl) (by kernel_rfl) ?_
          obtain rfl := Option.some.inj h
          exact ⟨rfl, h127.below⟩
        · intro w130 hq136 h129
          (try rw [hq136] at h)
          dsimp only [Lp.elim] at h
          obtain rfl := Option.some.inj h
          exact ⟨rfl, h129.below⟩
end

/-! ### slices.Clone[[]charabanc/api.Event,charabanc/api.Event] (function 54) -/
section
def api_Event_54.post (M0 : Nat → Prop) (w0 : World) (r : (List (Int × Int × Int × Int × Int × Int))) : Ending → World → Prop := fun e w => ∃ (A1 : Option Addr) (c1 : Nat), e = .returned (.slice A1 r.length c1) ∧ Holds M0 w0 w [own (Rp.pair (Rp.int .i64) (Rp.pair (Rp.int .i64) (Rp.pair (Rp.int .i64) (Rp.pair (Rp.int .u16) (Rp.pair (Rp.int .i64) (Rp.int .u8)))))) 54 (.slice A1 r.length c1) r]
def api_Event_54.f (K : Nat) (p0 : List (Int × Int × Int × Int × Int × Int)) : Option (List (Int × Int × Int × Int × Int × Int)) := cond (mayBe (([] : List (Int × Int × Int × Int × Int × Int)).length + p0.length) 48) (some (([] : List (Int × Int × Int × Int × Int × Int)) ++ p0)) none
set_option maxRecDepth 100000 in
theorem api_Event_54_ok (K : Nat) (M0 : Nat → Prop) (w0 : World) (pA0 : Option Addr) (pc0 : Nat) (p0 : List (Int × Int × Int × Int × Int × Int)) (ho : ∀ b, M0 b → b < w0.heap.size) (hs0 : Sl (Rp.pair (Rp.int .i64) (Rp.pair (Rp.int .i64) (Rp.pair (Rp.int .i64) (Rp.pair (Rp.int .u16) (Rp.pair (Rp.int .i64) (Rp.int .u8)))))) w0 M0 (.slice pA0 p0.length pc0) p0) {r : (List (Int × Int × Int × Int × Int × Int))} (h : api_Event_54.f K p0 = some r) :
    Calls Tryd.prog 54 #[.slice pA0 p0.length pc0] w0 (api_Event_54.post M0 w0 r) := by
  unfold api_Event_54.f at h
  have h0 : Holds M0 w0 w0 [] := Holds.start ho
  have h00 := h0.addSl (Rp.pair (Rp.int .i64) (Rp.pair (Rp.int .i64) (Rp.pair (Rp.int .i64) (Rp.pair (Rp.int .u16) (Rp.pair (Rp.int .i64) (Rp.int .u8)))))) (.slice pA0 p0.length pc0) p0 (hs0.mono (fun _ _ hm => hm.elim id (fun hm => absurd hm (by simp [mines, sl]))))
  have h0 : Holds M0 w0 w0 [sl (Rp.pair (Rp.int .i64) (Rp.pair (Rp.int .i64) (Rp.pair (Rp.int .i64) (Rp.pair (Rp.int .u16) (Rp.pair (Rp.int .i64) (Rp.int .u8)))))) (.slice pA0 p0.length pc0) p0] := h00
  refine calls_of F54 rfl [.slice pA0 p0.length pc0] (by kernel_rfl) ?_
  refine RunsI.go 1 [.c 1, .c 2] (by kernel_rfl) ?_
  refine RunsI.region (by kernel_rfl) ?_
  refine RegI.pure 1 [0] [(0, .slice pA0 p0.length pc0)] (by kernel_rfl) ?_
  refine RegI.done (by kernel_rfl) ?_
  refine RunsI.go 2 [.c 4, .c 5, .c 10] (by kernel_rfl) ?_
  refine RunsI.region (by kernel_rfl) ?_
  refine RegI.pure 1 [0, 3] [(0, .slice pA0 p0.length pc0), (3, .slice pA0 p0.length pc0)] (by kernel_rfl) ?_
  rcases pA0 with _ | a1
  · obtain ⟨rfl, rfl⟩ := Sl.nilOf (h0.get 0 rfl)
    have h : (some ([] : List (Int × Int × Int × Int × Int × Int))) = some r := by first | exact h | simpa using h
    refine RegI.pure 1 [0, 4] [(0, .slice none (([] : List (Int × Int × Int × Int × Int × Int)).length) 0), (4, .bool true)] (by kernel_rfl) ?_
    refine RegI.done (by kernel_rfl) ?_
    refine RunsI.cond true 6 (by kernel_rfl) ?_
    refine RunsI.go 1 [.c 7, .c 8, .c 10] (by kernel_rfl) ?_
    refine RunsI.region (by kernel_rfl) ?_
    refine RegI.pure 1 [2] [(2, .slice none 0 0)] (by kernel_rfl) ?_
    refine RegI.done (by kernel_rfl) ?_
    refine RunsI.ret (.slice none 0 0) (by kernel_rfl) (by kernel_rfl) ?_
    have h14 := h0.addOwnNil (Rp.pair (Rp.int .i64) (Rp.pair (Rp.int .i64) (Rp.pair (Rp.int .i64) (Rp.pair (Rp.int .u16) (Rp.pair (Rp.int .i64) (Rp.int .u8)))))) 54
    obtain rfl := Option.some.inj h
    exact ⟨none, 0, rfl, h14.pick [1] (by decide)⟩
  · skip
    refine RegI.pure 1 [0, 4] [(0, .slice (some a1) p0.length pc0), (4, .bool false)] (by kernel_rfl) ?_
    refine RegI.done (by kernel_rfl) ?_
    refine RunsI.cond false 9 (by kernel_rfl) ?_
    refine RunsI.go 2 [.c 11, .c 12] (by kernel_rfl) ?_
    refine RunsI.region (by kernel_rfl) ?_
    refine RegI.op (by kernel_rfl) (OpE.lit 5 54 [] 0 h0 (by kernel_rfl) (by kernel_rfl) ?_)
    intro w2 b3 h4 hb5 hn6
    refine RegI.pure 1 [5, 6] [(5, .slice (some ⟨b3, 0, none⟩) (([] : List (Int × Int × Int × Int × Int × Int)).length) 0), (6, .slice (some a1) p0.length pc0)] (by kernel_rfl) ?_
    have h7 := h4.boxOwn 1 rfl (Rp.pair (Rp.int .i64) (Rp.pair (Rp.int .i64) (Rp.pair (Rp.int .i64) (Rp.pair (Rp.int .u16) (Rp.pair (Rp.int .i64) (Rp.int .u8)))))) ([] : List (Int × Int × Int × Int × Int × Int)) (rfl) (Nat.le_of_ble_eq_true (by kernel_rfl))
    obtain ⟨hc8, h⟩ := of_cond0 h
    refine RegI.op (by kernel_rfl) (OpE.appendRow 7 1 26 54 48 (ys := p0) h7 (by kernel_rfl) (by kernel_rfl) (by kernel_rfl) rfl (h7.rdSl 0 rfl) hc8 ?_)
    intro w9 A10 c11 h12 hk13
    refine RegI.pure 1 [2] [(2, .slice A10 ((([] : List (Int × Int × Int × Int × Int × Int)) ++ p0).length) c11)] (by kernel_rfl) ?_
    refine RegI.done (by kernel_rfl) ?_
    refine RunsI.ret (.slice A10 ((([] : List (Int × Int × Int × Int × Int × Int)) ++ p0).length) c11) (by kernel_rfl) (by kernel_rfl) ?_
    obtain rfl := Option.some.inj h
    exact ⟨A10, c11, rfl, h12.pick [1] (by decide)⟩
end

/-! ### charabanc/history.Of (function 24) -/
section
def history_Of_24.post (M0 : Nat → Prop) (w0 : World) (r : (List (Int × Int × Int × Int × Int × Int))) : Ending → World → Prop := fun e w => ∃ (A1 : Option Addr) (c1 : Nat), e = .returned (.slice A1 r.length c1) ∧ Holds M0 w0 w [own (Rp.pair (Rp.int .i64) (Rp.pair (Rp.int .i64) (Rp.pair (Rp.int .i64) (Rp.pair (Rp.int .u16) (Rp.pair (Rp.int .i64) (Rp.int .u8)))))) 54 (.slice A1 r.length c1) r]
def history_Of_24.l0 (K : Nat) (p0 : List (Int × Int × Int × Int × Int × Int)) (p1 : Int) (t17 : List (Int × Int × Int × Int × Int × Int)) (t19 : Int) : Nat → Int → Option (Lp Int Unit)
  | 0, _ => none
  | k + 1, t20 => cond (decide (t20 < t19)) (cond (inR t20 t17.length) (cond (((rdD t17 t20).2.1) != p1) (some (Lp.ret t20)) (history_Of_24.l0 K p0 p1 t17 t19 k (IntKind.wrap .i64 (t20 + 1)))) none) (some (Lp.go ()))
set_option maxRecDepth 100000 in
theorem history_Of_24.l0_ok (K : Nat) (M0 : Nat → Prop) (w0 : World) (pA0 : Option Addr) (pc0 : Nat) (p0 : List (Int × Int × Int × Int × Int × Int)) (p1 : Int) (t17 : List (Int × Int × Int × Int × Int × Int)) (t19 : Int) (A15 : Option Addr) (c16 : Nat) (b18 : Nat) (R : Ending → World → Prop) (x : Lp Int Unit) (hk0 : ∀ (w1 : World), x = Lp.go () → Holds M0 w0 w1 [own (Rp.pair (Rp.int .i64) (Rp.pair (Rp.int .i64) (Rp.pair (Rp.int .i64) (Rp.pair (Rp.int .u16) (Rp.pair (Rp.int .i64) (Rp.int .u8)))))) 54 (.slice A15 t17.length c16) t17, box b18 3 [.int .i64 p1]] → RunsI F89 [.c 25] [] w1 R) (hk1 : ∀ (t31 : Int) (w1 : World), x = Lp.ret t31 → Holds M0 w0 w1 [own (Rp.pair (Rp.int .i64) (Rp.pair (Rp.int .i64) (Rp.pair (Rp.int .i64) (Rp.pair (Rp.int .u16) (Rp.pair (Rp.int .i64) (Rp.int .u8)))))) 54 (.slice A15 t17.length c16) t17, box b18 3 [.int .i64 p1]] → R (.returned (.int .i64 t31)) w1) :
    ∀ (k : Nat) (t20 : Int) (w : World), history_Of_24.l0 K p0 p1 t17 t19 k t20 = some x → Holds M0 w0 w [own (Rp.pair (Rp.int .i64) (Rp.pair (Rp.int .i64) (Rp.pair (Rp.int .i64) (Rp.pair (Rp.int .u16) (Rp.pair (Rp.int .i64) (Rp.int .u8)))))) 54 (.slice A15 t17.length c16) t17, box b18 3 [.int .i64 p1]] → RunsI F89 [.c 7, .lp 7, .blk 0, .c 25] [(0, .slice A15 t17.length c16), (1, .func (.func 55) #[] #[.pointer (some ⟨b18, 0, none⟩)]), (7, .int .i64 t19), (8, .int .i64 t20)] w R := by
  intro k
  induction k with
  | zero => intro t20 w h hH; exact absurd h (by simp [history_Of_24.l0])
  | succ k ih =>
    intro t20 w h hH
    rw [history_Of_24.l0.eq_2] at h
    refine RunsI.go 1 [.c 8, .c 9, .lp 7, .blk 0, .c 25] (by kernel_rfl) ?_
    refine RunsI.region (by kernel_rfl) ?_
    refine RegI.pure 1 [0, 1, 7, 8, 9] [(0, .slice A15 t17.length c16), (1, .func (.func 55) #[] #[.pointer (some ⟨b18, 0, none⟩)]), (7, .int .i64 t19), (8, .int .i64 t20), (9, .bool (decide (t20 < t19)))] (by kernel_rfl) ?_
    refine RegI.done (by kernel_rfl) ?_
    refine RunsI.go 1 [.c 10, .c 13, .lp 7, .blk 0, .c 25] (by kernel_rfl) ?_
    rcases of_cond h with ⟨hc21, h⟩ | ⟨hc21, h⟩
    · skip
      refine RunsI.fix 9 true hc21 (by kernel_rfl) (by kernel_rfl) ?_
      refine RunsI.cond true 11 (by kernel_rfl) ?_
      refine RunsI.go 1 [.c 13, .lp 7, .blk 0, .c 25] (by kernel_rfl) ?_
      refine RunsI.go 3 [.c 16, .c 17, .blk 1, .c 24, .lp 7, .blk 0, .c 25] (by kernel_rfl) ?_
      refine RunsI.region (by kernel_rfl) ?_
      refine RegI.pure 2 [0, 1, 5, 7, 8] [(0, .slice A15 t17.length c16), (1, .func (.func 55) #[] #[.pointer (some ⟨b18, 0, none⟩)]), (5, .int .i64 t20), (7, .int .i64 t19), (8, .int .i64 t20)] (by kernel_rfl) ?_
      refine RegI.done (by kernel_rfl) ?_
      refine RunsI.go 1 [.c 18, .c 19, .blk 1, .c 24, .lp 7, .blk 0, .c 25] (by kernel_rfl) ?_
      refine RunsI.region (by kernel_rfl) ?_
      refine RegI.pure 3 [0, 1, 5, 7, 8, 11, 12, 13] [(0, .slice A15 t17.length c16), (1, .func (.func 55) #[] #[.pointer (some ⟨b18, 0, none⟩)]), (5, .int .i64 t20), (7, .int .i64 t19), (8, .int .i64 t20), (11, .func (.func 55) #[] #[.pointer (some ⟨b18, 0, none⟩)]), (12, .slice A15 t17.length c16), (13, .int .i64 t20)] (by kernel_rfl) ?_
      obtain ⟨hc22, h⟩ := of_cond0 h
      refine RegI.op (by kernel_rfl) (OpE.idxOwnA 14 0 26 54 t20 hH (by kernel_rfl) rfl (by kernel_rfl) (by kernel_rfl) hc22 ?_)
      refine RegI.op (by kernel_rfl) (OpE.loadOwnA 15 0 54 54 t20 0 (o := (Int.toNat t20) * 6 + 0) hH (by kernel_rfl) rfl (by kernel_rfl) (by kernel_rfl) hc22 (fun cs23 hk24 => ?_))
      obtain ⟨_, _, rfl, rfl, ⟨_, _, rfl, rfl, ⟨_, _, rfl, rfl, ⟨_, _, rfl, rfl, ⟨_, _, rfl, rfl, rfl⟩⟩⟩⟩⟩ := hk24
      refine ⟨.agg #[.int .i64 ((rdD t17 t20).1), .int .i64 ((rdD t17 t20).2.1), .int .i64 ((rdD t17 t20).2.2.1), .int .u16 ((rdD t17 t20).2.2.2.1), .int .i64 ((rdD t17 t20).2.2.2.2.1), .int .u8 ((rdD t17 t20).2.2.2.2.2)], by kernel_rfl, ?_⟩
      refine RegI.enter 16 [0, 1, 5, 7, 8] [(0, .slice A15 t17.length c16), (1, .func (.func 55) #[] #[.pointer (some ⟨b18, 0, none⟩)]), (5, .int .i64 t20), (7, .int .i64 t19), (8, .int .i64 t20)] (by kernel_rfl) (by kernel_rfl) (by kernel_rfl) (by kernel_rfl) F55 55 rfl [.agg #[.int .i64 ((rdD t17 t20).1), .int .i64 ((rdD t17 t20).2.1), .int .i64 ((rdD t17 t20).2.2.1), .int .u16 ((rdD t17 t20).2.2.2.1), .int .i64 ((rdD t17 t20).2.2.2.2.1), .int .u8 ((rdD t17 t20).2.2.2.2.2)], .pointer (some ⟨b18, 0, none⟩)] (by kernel_rfl) (by kernel_rfl) ?_
      refine RunsI.go 1 [.c 1, .c 2] (by kernel_rfl) ?_
      refine RunsI.region (by kernel_rfl) ?_
      refine RegI.op (by kernel_rfl) (OpE.box 2 54 [.int .i64 ((rdD t17 t20).1), .int .i64 ((rdD t17 t20).2.1), .int .i64 ((rdD t17 t20).2.2.1), .int .u16 ((rdD t17 t20).2.2.2.1), .int .i64 ((rdD t17 t20).2.2.2.2.1), .int .u8 ((rdD t17 t20).2.2.2.2.2)] hH (by kernel_rfl) (by kernel_rfl) ?_)
      intro w25 b26 h27 hb28 hn29
      refine RegI.pure 1 [1, 2] [(1, .pointer (some ⟨b18, 0, none⟩)), (2, .pointer (some ⟨b26, 0, none⟩))] (by kernel_rfl) ?_
      refine RegI.done (by kernel_rfl) ?_
      refine RunsI.go 1 [.c 3, .c 4] (by kernel_rfl) ?_
      refine RunsI.region (by kernel_rfl) ?_
      refine RegI.pure 1 [1, 4] [(1, .pointer (some ⟨b18, 0, none⟩)), (4, .pointer (some ⟨b26, 1, none⟩))] (by kernel_rfl) ?_
      refine RegI.op (by kernel_rfl) (OpE.loadBox 5 2 3 b26 1 (.int .i64 ((rdD t17 t20).2.1)) h27 (by kernel_rfl) (by kernel_rfl) rfl (by kernel_rfl) ?_)
      refine RegI.op (by kernel_rfl) (OpE.loadBox 6 1 3 b18 0 (.int .i64 p1) h27 (by kernel_rfl) (by kernel_rfl) rfl (by kernel_rfl) ?_)
      refine RegI.pure 2 [3] [(3, .bool (((rdD t17 t20).2.1) != p1))] (by kernel_rfl) ?_
      refine RegI.done (by kernel_rfl) ?_
      refine RunsI.ret (.bool (((rdD t17 t20).2.1) != p1)) (by kernel_rfl) (by kernel_rfl) ?_
      refine cont_mk ?_
      refine RegI.done (by kernel_rfl) ?_
      rcases of_cond h with ⟨hc30, h⟩ | ⟨hc30, h⟩
      · skip
        refine RunsI.fix 16 true hc30 (by kernel_rfl) (by kernel_rfl) ?_
        refine RunsI.cond true 20 (by kernel_rfl) ?_
        refine RunsI.go 1 [.c 21, .c 22, .blk 1, .c 24, .lp 7, .blk 0, .c 25] (by kernel_rfl) ?_
        refine RunsI.region (by kernel_rfl) ?_
        refine RegI.pure 2 [4] [(4, .int .i64 t20)] (by kernel_rfl) ?_
        refine RegI.done (by kernel_rfl) ?_
        refine RunsI.ret (.int .i64 t20) (by kernel_rfl) (by kernel_rfl) ?_
        exact hk1 t20 w25 (Option.some.inj h).symm (h27.pick [0, 1] (by decide))
      · skip
        refine RunsI.fix 16 false hc30 (by kernel_rfl) (by kernel_rfl) ?_
        refine RunsI.cond false 23 (by kernel_rfl) ?_
        refine RunsI.go 1 [.blk 1, .c 24, .lp 7, .blk 0, .c 25] (by kernel_rfl) ?_
        refine RunsI.go 1 [.c 24, .lp 7, .blk 0, .c 25] (by kernel_rfl) ?_
        refine RunsI.region (by kernel_rfl) ?_
        refine RegI.pure 2 [0, 1, 7, 8] [(0, .slice A15 t17.length c16), (1, .func (.func 55) #[] #[.pointer (some ⟨b18, 0, none⟩)]), (7, .int .i64 t19), (8, .int .i64 (IntKind.wrap .i64 (t20 + 1)))] (by kernel_rfl) ?_
        refine RegI.done (by kernel_rfl) ?_
        refine RunsI.go 1 [.c 7, .lp 7, .blk 0, .c 25] (by kernel_rfl) ?_
        refine RunsI.only [0, 1, 7, 8] [(0, .slice A15 t17.length c16), (1, .func (.func 55) #[] #[.pointer (some ⟨b18, 0, none⟩)]), (7, .int .i64 t19), (8, .int .i64 (IntKind.wrap .i64 (t20 + 1)))] (by kernel_rfl) (by kernel_rfl) ?_
        exact ih (IntKind.wrap .i64 (t20 + 1)) w25 h (h27.pick [0, 1] (by decide))
    · skip
      refine RunsI.fix 9 false hc21 (by kernel_rfl) (by kernel_rfl) ?_
      refine RunsI.cond false 12 (by kernel_rfl) ?_
      refine RunsI.go 1 [.c 25] (by kernel_rfl) ?_
      refine RunsI.only [] [] (by kernel_rfl) (by kernel_rfl) ?_
      exact hk0 w (Option.some.inj h).symm (hH.pick [0, 1] (by decide))
def history_Of_24.l1 (K : Nat) (p0 : List (Int × Int × Int × Int × Int × Int)) (p1 : Int) : Nat → (List (Int × Int × Int × Int × Int × Int)) → Int → Int → Option ((List (Int × Int × Int × Int × Int × Int)) × Int)
  | 0, _, _, _ => none
  | k + 1, t48, t50, t51 => cond (decide (t51 < (t48.length : Int))) (cond (inR t51 t48.length) (cond (!(((rdD t48 t51).2.1) != p1)) (cond (inR t50 t48.length) (history_Of_24.l1 K p0 p1 k (stD t48 t50 ((rdD t48 t51).1, (rdD t48 t51).2.1, (rdD t48 t51).2.2.1, (rdD t48 t51).2.2.2.1, (rdD t48 t51).2.2.2.2.1, (rdD t48 t51).2.2.2.2.2)) (IntKind.wrap .i64 (t50 + 1)) (IntKind.wrap .i64 (t51 + 1))) none) (history_Of_24.l1 K p0 p1 k t48 t50 (IntKind.wrap .i64 (t51 + 1)))) none) (some (t48, t50))
set_option maxRecDepth 100000 in
theorem history_Of_24.l1_ok (K : Nat) (M0 : Nat → Prop) (w0 : World) (pA0 : Option Addr) (pc0 : Nat) (p0 : List (Int × Int × Int × Int × Int × Int)) (p1 : Int) (A46 : Option Addr) (c47 : Nat) (b49 : Nat) (R : Ending → World → Prop) (x : (List (Int × Int × Int × Int × Int × Int)) × Int) (hk0 : ∀ (t75 : List (Int × Int × Int × Int × Int × Int)) (t76 : Int) (w1 : World), x = (t75, t76) → Holds M0 w0 w1 [own (Rp.pair (Rp.int .i64) (Rp.pair (Rp.int .i64) (Rp.pair (Rp.int .i64) (Rp.pair (Rp.int .u16) (Rp.pair (Rp.int .i64) (Rp.int .u8)))))) 54 (.slice A46 t75.length c47) t75] → RunsI F53 [.c 35] [(0, .slice A46 t75.length c47), (5, .int .i64 t76)] w1 R) :
    ∀ (k : Nat) (t48 : List (Int × Int × Int × Int × Int × Int)) (t50 : Int) (t51 : Int) (w : World), history_Of_24.l1 K p0 p1 k t48 t50 t51 = some x → Holds M0 w0 w [own (Rp.pair (Rp.int .i64) (Rp.pair (Rp.int .i64) (Rp.pair (Rp.int .i64) (Rp.pair (Rp.int .u16) (Rp.pair (Rp.int .i64) (Rp.int .u8)))))) 54 (.slice A46 t48.length c47) t48, box b49 3 [.int .i64 p1]] → RunsI F53 [.c 17, .lp 17, .blk 0, .c 35] [(0, .slice A46 t48.length c47), (1, .func (.func 55) #[] #[.pointer (some ⟨b49, 0, none⟩)]), (5, .int .i64 t50), (6, .int .i64 t51)] w R := by
  intro k
  induction k with
  | zero => intro t48 t50 t51 w h hH; exact absurd h (by simp [history_Of_24.l1])
  | succ k ih =>
    intro t48 t50 t51 w h hH
    rw [history_Of_24.l1.eq_2] at h
    refine RunsI.go 1 [.c 18, .c 23, .lp 17, .blk 0, .c 35] (by kernel_rfl) ?_
    refine RunsI.go 1 [.c 19, .c 20, .c 23, .lp 17, .blk 0, .c 35] (by kernel_rfl) ?_
    refine RunsI.region (by kernel_rfl) ?_
    refine RegI.pure 4 [0, 1, 5, 6, 19] [(0, .slice A46 t48.length c47), (1, .func (.func 55) #[] #[.pointer (some ⟨b49, 0, none⟩)]), (5, .int .i64 t50), (6, .int .i64 t51), (19, .bool (decide (t51 < (t48.length : Int))))] (by kernel_rfl) ?_
    refine RegI.done (by kernel_rfl) ?_
    rcases of_cond h with ⟨hc52, h⟩ | ⟨hc52, h⟩
    · skip
      refine RunsI.fix 19 true hc52 (by kernel_rfl) (by kernel_rfl) ?_
      refine RunsI.cond true 21 (by kernel_rfl) ?_
      refine RunsI.go 1 [.c 23, .lp 17, .blk 0, .c 35] (by kernel_rfl) ?_
      refine RunsI.go 3 [.c 26, .c 27, .blk 1, .c 34, .lp 17, .blk 0, .c 35] (by kernel_rfl) ?_
      refine RunsI.region (by kernel_rfl) ?_
      refine RegI.pure 2 [0, 1, 5, 6, 22, 23] [(0, .slice A46 t48.length c47), (1, .func (.func 55) #[] #[.pointer (some ⟨b49, 0, none⟩)]), (5, .int .i64 t50), (6, .int .i64 t51), (22, .slice A46 t48.length c47), (23, .int .i64 t51)] (by kernel_rfl) ?_
      obtain ⟨hc53, h⟩ := of_cond0 h
      refine RegI.op (by kernel_rfl) (OpE.idxOwnA 24 0 26 54 t51 hH (by kernel_rfl) rfl (by kernel_rfl) (by kernel_rfl) hc53 ?_)
      refine RegI.op (by kernel_rfl) (OpE.loadOwnA 25 0 54 54 t51 0 (o := (Int.toNat t51) * 6 + 0) hH (by kernel_rfl) rfl (by kernel_rfl) (by kernel_rfl) hc53 (fun cs54 hk55 => ?_))
      obtain ⟨_, _, rfl, rfl, ⟨_, _, rfl, rfl, ⟨_, _, rfl, rfl, ⟨_, _, rfl, rfl, ⟨_, _, rfl, rfl, rfl⟩⟩⟩⟩⟩ := hk55
      refine ⟨.agg #[.int .i64 ((rdD t48 t51).1), .int .i64 ((rdD t48 t51).2.1), .int .i64 ((rdD t48 t51).2.2.1), .int .u16 ((rdD t48 t51).2.2.2.1), .int .i64 ((rdD t48 t51).2.2.2.2.1), .int .u8 ((rdD t48 t51).2.2.2.2.2)], by kernel_rfl, ?_⟩
      refine RegI.op (by kernel_rfl) (OpE.box 7 54 [.int .i64 0, .int .i64 0, .int .i64 0, .int .u16 0, .int .i64 0, .int .u8 0] hH (by kernel_rfl) (by kernel_rfl) ?_)
      intro w56 b57 h58 hb59 hn60
      refine RegI.op (by kernel_rfl) (OpE.storeBox 2 54 b57 0 (.agg #[.int .i64 ((rdD t48 t51).1), .int .i64 ((rdD t48 t51).2.1), .int .i64 ((rdD t48 t51).2.2.1), .int .u16 ((rdD t48 t51).2.2.2.1), .int .i64 ((rdD t48 t51).2.2.2.2.1), .int .u8 ((rdD t48 t51).2.2.2.2.2)]) [.int .i64 ((rdD t48 t51).1), .int .i64 ((rdD t48 t51).2.1), .int .i64 ((rdD t48 t51).2.2.1), .int .u16 ((rdD t48 t51).2.2.2.1), .int .i64 ((rdD t48 t51).2.2.2.2.1), .int .u8 ((rdD t48 t51).2.2.2.2.2)] h58 (by kernel_rfl) (by kernel_rfl) rfl (by kernel_rfl) (by kernel_rfl) (by kernel_rfl) ?_)
      intro w61 h62 hk63
      refine RegI.done (by kernel_rfl) ?_
      refine RunsI.go 1 [.c 28, .c 29, .blk 1, .c 34, .lp 17, .blk 0, .c 35] (by kernel_rfl) ?_
      refine RunsI.region (by kernel_rfl) ?_
      refine RegI.pure 1 [0, 1, 5, 6, 7, 26] [(0, .slice A46 t48.length c47), (1, .func (.func 55) #[] #[.pointer (some ⟨b49, 0, none⟩)]), (5, .int .i64 t50), (6, .int .i64 t51), (7, .pointer (some ⟨b57, 0, none⟩)), (26, .func (.func 55) #[] #[.pointer (some ⟨b49, 0, none⟩)])] (by kernel_rfl) ?_
      refine RegI.op (by kernel_rfl) (OpE.loadBox 27 2 54 b57 0 (.agg #[.int .i64 ((rdD t48 t51).1), .int .i64 ((rdD t48 t51).2.1), .int .i64 ((rdD t48 t51).2.2.1), .int .u16 ((rdD t48 t51).2.2.2.1), .int .i64 ((rdD t48 t51).2.2.2.2.1), .int .u8 ((rdD t48 t51).2.2.2.2.2)]) h62 (by kernel_rfl) (by kernel_rfl) rfl (by kernel_rfl) ?_)
      refine RegI.enter 28 [0, 1, 5, 6, 7] [(0, .slice A46 t48.length c47), (1, .func (.func 55) #[] #[.pointer (some ⟨b49, 0, none⟩)]), (5, .int .i64 t50), (6, .int .i64 t51), (7, .pointer (some ⟨b57, 0, none⟩))] (by kernel_rfl) (by kernel_rfl) (by kernel_rfl) (by kernel_rfl) F55 55 rfl [.agg #[.int .i64 ((rdD t48 t51).1), .int .i64 ((rdD t48 t51).2.1), .int .i64 ((rdD t48 t51).2.2.1), .int .u16 ((rdD t48 t51).2.2.2.1), .int .i64 ((rdD t48 t51).2.2.2.2.1), .int .u8 ((rdD t48 t51).2.2.2.2.2)], .pointer (some ⟨b49, 0, none⟩)] (by kernel_rfl) (by kernel_rfl) ?_
      refine RunsI.go 1 [.c 1, .c 2] (by kernel_rfl) ?_
      refine RunsI.region (by kernel_rfl) ?_
      refine RegI.op (by kernel_rfl) (OpE.box 2 54 [.int .i64 ((rdD t48 t51).1), .int .i64 ((rdD t48 t51).2.1), .int .i64 ((rdD t48 t51).2.2.1), .int .u16 ((rdD t48 t51).2.2.2.1), .int .i64 ((rdD t48 t51).2.2.2.2.1), .int .u8 ((rdD t48 t51).2.2.2.2.2)] h62 (by kernel_rfl) (by kernel_rfl) ?_)
      intro w64 b65 h66 hb67 hn68
      refine RegI.pure 1 [1, 2] [(1, .pointer (some ⟨b49, 0, none⟩)), (2, .pointer (some ⟨b65, 0, none⟩))] (by kernel_rfl) ?_
      refine RegI.done (by kernel_rfl) ?_
      refine RunsI.go 1 [.c 3, .c 4] (by kernel_rfl) ?_
      refine RunsI.region (by kernel_rfl) ?_
      refine RegI.pure 1 [1, 4] [(1, .pointer (some ⟨b49, 0, none⟩)), (4, .pointer (some ⟨b65, 1, none⟩))] (by kernel_rfl) ?_
      refine RegI.op (by kernel_rfl) (OpE.loadBox 5 3 3 b65 1 (.int .i64 ((rdD t48 t51).2.1)) h66 (by kernel_rfl) (by kernel_rfl) rfl (by kernel_rfl) ?_)
      refine RegI.op (by kernel_rfl) (OpE.loadBox 6 1 3 b49 0 (.int .i64 p1) h66 (by kernel_rfl) (by kernel_rfl) rfl (by kernel_rfl) ?_)
      refine RegI.pure 2 [3] [(3, .bool (((rdD t48 t51).2.1) != p1))] (by kernel_rfl) ?_
      refine RegI.done (by kernel_rfl) ?_
      refine RunsI.ret (.bool (((rdD t48 t51).2.1) != p1)) (by kernel_rfl) (by kernel_rfl) ?_
      refine cont_mk ?_
      refine RegI.pure 1 [0, 1, 5, 6, 7, 29] [(0, .slice A46 t48.length c47), (1, .func (.func 55) #[] #[.pointer (some ⟨b49, 0, none⟩)]), (5, .int .i64 t50), (6, .int .i64 t51), (7, .pointer (some ⟨b57, 0, none⟩)), (29, .bool (!(((rdD t48 t51).2.1) != p1)))] (by kernel_rfl) ?_
      refine RegI.done (by kernel_rfl) ?_
      rcases of_cond h with ⟨hc69, h⟩ | ⟨hc69, h⟩
      · skip
        refine RunsI.fix 29 true hc69 (by kernel_rfl) (by kernel_rfl) ?_
        refine RunsI.cond true 30 (by kernel_rfl) ?_
        refine RunsI.go 1 [.c 31, .c 32, .blk 1, .c 34, .lp 17, .blk 0, .c 35] (by kernel_rfl) ?_
        refine RunsI.region (by kernel_rfl) ?_
        refine RegI.pure 2 [0, 1, 5, 6, 7, 30, 31] [(0, .slice A46 t48.length c47), (1, .func (.func 55) #[] #[.pointer (some ⟨b49, 0, none⟩)]), (5, .int .i64 t50), (6, .int .i64 t51), (7, .pointer (some ⟨b57, 0, none⟩)), (30, .slice A46 t48.length c47), (31, .int .i64 t50)] (by kernel_rfl) ?_
        refine RegI.op (by kernel_rfl) (OpE.loadBox 32 2 54 b57 0 (.agg #[.int .i64 ((rdD t48 t51).1), .int .i64 ((rdD t48 t51).2.1), .int .i64 ((rdD t48 t51).2.2.1), .int .u16 ((rdD t48 t51).2.2.2.1), .int .i64 ((rdD t48 t51).2.2.2.2.1), .int .u8 ((rdD t48 t51).2.2.2.2.2)]) h66 (by kernel_rfl) (by kernel_rfl) rfl (by kernel_rfl) ?_)
        obtain ⟨hc70, h⟩ := of_cond0 h
        refine RegI.op (by kernel_rfl) (OpE.idxOwnA 33 0 26 54 t50 h66 (by kernel_rfl) rfl (by kernel_rfl) (by kernel_rfl) hc70 ?_)
        refine RegI.op (by kernel_rfl) (OpE.storeOwnA 0 54 54 t50 0 (.agg #[.int .i64 ((rdD t48 t51).1), .int .i64 ((rdD t48 t51).2.1), .int .i64 ((rdD t48 t51).2.2.1), .int .u16 ((rdD t48 t51).2.2.2.1), .int .i64 ((rdD t48 t51).2.2.2.2.1), .int .u8 ((rdD t48 t51).2.2.2.2.2)]) (o := (Int.toNat t50) * 6 + 0) ((rdD t48 t51).1, (rdD t48 t51).2.1, (rdD t48 t51).2.2.1, (rdD t48 t51).2.2.2.1, (rdD t48 t51).2.2.2.2.1, (rdD t48 t51).2.2.2.2.2) h66 (by kernel_rfl) (by kernel_rfl) rfl (by kernel_rfl) (by kernel_rfl) (by kernel_rfl) hc70 (fun _ hk => by obtain ⟨_, _, rfl, rfl, ⟨_, _, rfl, rfl, ⟨_, _, rfl, rfl, ⟨_, _, rfl, rfl, ⟨_, _, rfl, rfl, rfl⟩⟩⟩⟩⟩ := hk; exact ⟨[_], [_, _, _, _, _], rfl, rfl, ⟨[_], [_, _, _, _], rfl, rfl, ⟨[_], [_, _, _], rfl, rfl, ⟨[_], [_, _], rfl, rfl, ⟨[_], [_], rfl, rfl, rfl⟩⟩⟩⟩⟩) ?_)
        intro w71 h72 hk73
        refine RegI.done (by kernel_rfl) ?_
        refine RunsI.region (by kernel_rfl) ?_
        refine RegI.pure 3 [0, 1, 5, 6] [(0, .slice A46 t48.length c47), (1, .func (.func 55) #[] #[.pointer (some ⟨b49, 0, none⟩)]), (5, .int .i64 (IntKind.wrap .i64 (t50 + 1))), (6, .int .i64 t51)] (by kernel_rfl) ?_
        refine RegI.done (by kernel_rfl) ?_
        refine RunsI.go 1 [.c 34, .lp 17, .blk 0, .c 35] (by kernel_rfl) ?_
        refine RunsI.region (by kernel_rfl) ?_
        refine RegI.pure 3 [0, 1, 5, 6] [(0, .slice A46 t48.length c47), (1, .func (.func 55) #[] #[.pointer (some ⟨b49, 0, none⟩)]), (5, .int .i64 (IntKind.wrap .i64 (t50 + 1))), (6, .int .i64 (IntKind.wrap .i64 (t51 + 1)))] (by kernel_rfl) ?_
        refine RegI.done (by kernel_rfl) ?_
        refine RunsI.go 1 [.c 17, .lp 17, .blk 0, .c 35] (by kernel_rfl) ?_
        refine RunsI.only [0, 1, 5, 6] [(0, .slice A46 t48.length c47), (1, .func (.func 55) #[] #[.pointer (some ⟨b49, 0, none⟩)]), (5, .int .i64 (IntKind.wrap .i64 (t50 + 1))), (6, .int .i64 (IntKind.wrap .i64 (t51 + 1)))] (by kernel_rfl) (by kernel_rfl) ?_
        have h74 : Holds M0 w0 w71 [own (Rp.pair (Rp.int .i64) (Rp.pair (Rp.int .i64) (Rp.pair (Rp.int .i64) (Rp.pair (Rp.int .u16) (Rp.pair (Rp.int .i64) (Rp.int .u8)))))) 54 (.slice A46 ((stD t48 t50 ((rdD t48 t51).1, (rdD t48 t51).2.1, (rdD t48 t51).2.2.1, (rdD t48 t51).2.2.2.1, (rdD t48 t51).2.2.2.2.1, (rdD t48 t51).2.2.2.2.2)).length) c47) (stD t48 t50 ((rdD t48 t51).1, (rdD t48 t51).2.1, (rdD t48 t51).2.2.1, (rdD t48 t51).2.2.2.1, (rdD t48 t51).2.2.2.2.1, (rdD t48 t51).2.2.2.2.2)), box b49 3 [.int .i64 p1], box b57 54 [.int .i64 ((rdD t48 t51).1), .int .i64 ((rdD t48 t51).2.1), .int .i64 ((rdD t48 t51).2.2.1), .int .u16 ((rdD t48 t51).2.2.2.1), .int .i64 ((rdD t48 t51).2.2.2.2.1), .int .u8 ((rdD t48 t51).2.2.2.2.2)], box b65 54 [.int .i64 ((rdD t48 t51).1), .int .i64 ((rdD t48 t51).2.1), .int .i64 ((rdD t48 t51).2.2.1), .int .u16 ((rdD t48 t51).2.2.2.1), .int .i64 ((rdD t48 t51).2.2.2.2.1), .int .u8 ((rdD t48 t51).2.2.2.2.2)]] := by have hY : Holds M0 w0 w71 [own (Rp.pair (Rp.int .i64) (Rp.pair (Rp.int .i64) (Rp.pair (Rp.int .i64) (Rp.pair (Rp.int .u16) (Rp.pair (Rp.int .i64) (Rp.int .u8)))))) 54 (.slice A46 t48.length c47) (stD t48 t50 ((rdD t48 t51).1, (rdD t48 t51).2.1, (rdD t48 t51).2.2.1, (rdD t48 t51).2.2.2.1, (rdD t48 t51).2.2.2.2.1, (rdD t48 t51).2.2.2.2.2)), box b49 3 [.int .i64 p1], box b57 54 [.int .i64 ((rdD t48 t51).1), .int .i64 ((rdD t48 t51).2.1), .int .i64 ((rdD t48 t51).2.2.1), .int .u16 ((rdD t48 t51).2.2.2.1), .int .i64 ((rdD t48 t51).2.2.2.2.1), .int .u8 ((rdD t48 t51).2.2.2.2.2)], box b65 54 [.int .i64 ((rdD t48 t51).1), .int .i64 ((rdD t48 t51).2.1), .int .i64 ((rdD t48 t51).2.2.1), .int .u16 ((rdD t48 t51).2.2.2.1), .int .i64 ((rdD t48 t51).2.2.2.2.1), .int .u8 ((rdD t48 t51).2.2.2.2.2)]] := h72; simpa only [stD_length] using hY
        refine RunsI.is [(0, .slice A46 ((stD t48 t50 ((rdD t48 t51).1, (rdD t48 t51).2.1, (rdD t48 t51).2.2.1, (rdD t48 t51).2.2.2.1, (rdD t48 t51).2.2.2.2.1, (rdD t48 t51).2.2.2.2.2)).length) c47), (1, .func (.func 55) #[] #[.pointer (some ⟨b49, 0, none⟩)]), (5, .int .i64 (IntKind.wrap .i64 (t50 + 1))), (6, .int .i64 (IntKind.wrap .i64 (t51 + 1)))] (by simp only [stD_length]) ?_
        refine RunsI.only [0, 1, 5, 6] [(0, .slice A46 ((stD t48 t50 ((rdD t48 t51).1, (rdD t48 t51).2.1, (rdD t48 t51).2.2.1, (rdD t48 t51).2.2.2.1, (rdD t48 t51).2.2.2.2.1, (rdD t48 t51).2.2.2.2.2)).length) c47), (1, .func (.func 55) #[] #[.pointer (some ⟨b49, 0, none⟩)]), (5, .int .i64 (IntKind.wrap .i64 (t50 + 1))), (6, .int .i64 (IntKind.wrap .i64 (t51 + 1)))] (by kernel_rfl) (by kernel_rfl) ?_
        exact ih (stD t48 t50 ((rdD t48 t51).1, (rdD t48 t51).2.1, (rdD t48 t51).2.2.1, (rdD t48 t51).2.2.2.1, (rdD t48 t51).2.2.2.2.1, (rdD t48 t51).2.2.2.2.2)) (IntKind.wrap .i64 (t50 + 1)) (IntKind.wrap .i64 (t51 + 1)) w71 h (h74.pick [0, 1] (by decide))
      · skip
        refine RunsI.fix 29 false hc69 (by kernel_rfl) (by kernel_rfl) ?_
        refine RunsI.cond false 33 (by kernel_rfl) ?_
        refine RunsI.go 1 [.blk 1, .c 34, .lp 17, .blk 0, .c 35] (by kernel_rfl) ?_
        refine RunsI.go 1 [.c 34, .lp 17, .blk 0, .c 35] (by kernel_rfl) ?_
        refine RunsI.region (by kernel_rfl) ?_
        refine RegI.pure 3 [0, 1, 5, 6] [(0, .slice A46 t48.length c47), (1, .func (.func 55) #[] #[.pointer (some ⟨b49, 0, none⟩)]), (5, .int .i64 t50), (6, .int .i64 (IntKind.wrap .i64 (t51 + 1)))] (by kernel_rfl) ?_
        refine RegI.done (by kernel_rfl) ?_
        refine RunsI.go 1 [.c 17, .lp 17, .blk 0, .c 35] (by kernel_rfl) ?_
        refine RunsI.only [0, 1, 5, 6] [(0, .slice A46 t48.length c47), (1, .func (.func 55) #[] #[.pointer (some ⟨b49, 0, none⟩)]), (5, .int .i64 t50), (6, .int .i64 (IntKind.wrap .i64 (t51 + 1)))] (by kernel_rfl) (by kernel_rfl) ?_
        exact ih t48 t50 (IntKind.wrap .i64 (t51 + 1)) w64 h (h66.pick [0, 1] (by decide))
    · skip
      refine RunsI.fix 19 false hc52 (by kernel_rfl) (by kernel_rfl) ?_
      refine RunsI.cond false 22 (by kernel_rfl) ?_
      refine RunsI.go 1 [.c 35] (by kernel_rfl) ?_
      refine RunsI.only [0, 5] [(0, .slice A46 t48.length c47), (5, .int .i64 t50)] (by kernel_rfl) (by kernel_rfl) ?_
      exact hk0 t48 t50 w (Option.some.inj h).symm (hH.pick [0] (by decide))
def history_Of_24.f (K : Nat) (p0 : List (Int × Int × Int × Int × Int × Int)) (p1 : Int) : Option (List (Int × Int × Int × Int × Int × Int)) := (api_Event_54.f K p0).bind fun t10 => Let (fun (t93 : (List (Int × Int × Int × Int × Int × Int))) => some t93) (fun j96 => Let (fun (t39 : Int) => cond (t39 == (-1)) (j96 t10) ((history_Of_24.l1 K p0 p1 K t10 t39 (IntKind.wrap .i64 (t39 + 1))).bind (fun yx77 => cond (cutR yx77.2 (yx77.1.length : Int) yx77.1.length) (cond (cutR 0 yx77.2 (clrD yx77.1 yx77.2 (0, 0, 0, 0, 0, 0)).length) (j96 (cutL (clrD yx77.1 yx77.2 (0, 0, 0, 0, 0, 0)) 0 yx77.2)) none) none))) (fun j42 => (history_Of_24.l0 K p0 p1 t10 (t10.length : Int) K 0).bind (fun x32 => Lp.elim x32 (fun t36 => j42 t36) (fun _ => j42 (-1)))))
set_option maxRecDepth 100000 in
theorem history_Of_24_ok (K : Nat) (M0 : Nat → Prop) (w0 : World) (pA0 : Option Addr) (pc0 : Nat) (p0 : List (Int × Int × Int × Int × Int × Int)) (p1 : Int) (ho : ∀ b, M0 b → b < w0.heap.size) (hs0 : Sl (Rp.pair (Rp.int .i64) (Rp.pair (Rp.int .i64) (Rp.pair (Rp.int .i64) (Rp.pair (Rp.int .u16) (Rp.pair (Rp.int .i64) (Rp.int .u8)))))) w0 M0 (.slice pA0 p0.length pc0) p0) {r : (List (Int × Int × Int × Int × Int × Int))} (h : history_Of_24.f K p0 p1 = some r) :
    Calls Tryd.prog 24 #[.slice pA0 p0.length pc0, .int .i64 p1] w0 (history_Of_24.post M0 w0 r) := by
  unfold history_Of_24.f at h
  have h0 : Holds M0 w0 w0 [] := Holds.start ho
  have h00 := h0.addSl (Rp.pair (Rp.int .i64) (Rp.pair (Rp.int .i64) (Rp.pair (Rp.int .i64) (Rp.pair (Rp.int .u16) (Rp.pair (Rp.int .i64) (Rp.int .u8)))))) (.slice pA0 p0.length pc0) p0 (hs0.mono (fun _ _ hm => hm.elim id (fun hm => absurd hm (by simp [mines, sl]))))
  have h0 : Holds M0 w0 w0 [sl (Rp.pair (Rp.int .i64) (Rp.pair (Rp.int .i64) (Rp.pair (Rp.int .i64) (Rp.pair (Rp.int .u16) (Rp.pair (Rp.int .i64) (Rp.int .u8)))))) (.slice pA0 p0.length pc0) p0] := h00
  refine calls_of F24 rfl [.slice pA0 p0.length pc0, .int .i64 p1] (by kernel_rfl) ?_
  refine RunsI.go 1 [.c 1, .c 2] (by kernel_rfl) ?_
  refine RunsI.region (by kernel_rfl) ?_
  refine RegI.op (by kernel_rfl) (OpE.box 3 3 [.int .i64 p1] h0 (by kernel_rfl) (by kernel_rfl) ?_)
  intro w1 b2 h3 hb4 hn5
  refine RegI.pure 1 [0, 3] [(0, .slice pA0 p0.length pc0), (3, .pointer (some ⟨b2, 0, none⟩))] (by kernel_rfl) ?_
  refine RegI.done (by kernel_rfl) ?_
  refine RunsI.go 1 [.c 3, .c 4] (by kernel_rfl) ?_
  refine RunsI.region (by kernel_rfl) ?_
  refine RegI.pure 1 [3, 5] [(3, .pointer (some ⟨b2, 0, none⟩)), (5, .slice pA0 p0.length pc0)] (by kernel_rfl) ?_
  obtain ⟨t10, hg9, h⟩ := of_bind h
  refine RegI.op (by kernel_rfl) (OpE.call 6 (by kernel_rfl) 54 #[.slice pA0 p0.length pc0] (by kernel_rfl) ((api_Event_54_ok K _ w1  pA0 pc0 p0 h3.old' (h3.get 0 rfl) hg9).mono ?_))
  rintro _ w6 ⟨A11, c12, rfl, hr14⟩
  refine ⟨_, rfl, ?_⟩
  have hb7 := hr14.below
  have h8 := h3.join hr14
  refine RegI.pure 1 [6, 7] [(6, .slice A11 t10.length c12), (7, .func (.func 55) #[] #[.pointer (some ⟨b2, 0, none⟩)])] (by kernel_rfl) ?_
  refine RegI.enter 8 [] [] (by kernel_rfl) (by kernel_rfl) (by kernel_rfl) (by kernel_rfl) F53 53 rfl [.slice A11 t10.length c12, .func (.func 55) #[] #[.pointer (some ⟨b2, 0, none⟩)]] (by kernel_rfl) (by kernel_rfl) ?_
  obtain ⟨j96, hJ97, h⟩ := of_let h
  have hj98 : ∀ (t93 : List (Int × Int × Int × Int × Int × Int)) (A91 : Option Addr) (c92 : Nat) (w95 : World), j96 t93 = some r → Holds M0 w0 w95 [own (Rp.pair (Rp.int .i64) (Rp.pair (Rp.int .i64) (Rp.pair (Rp.int .i64) (Rp.pair (Rp.int .u16) (Rp.pair (Rp.int .i64) (Rp.int .u8)))))) 54 (.slice A91 t93.length c92) t93] → RegI F24 3 [.c 4] 4 [(8, .slice A91 t93.length c92)] w95 (history_Of_24.post M0 w0 r) := by
    intro t93 A91 c92 w95 h h94
    rw [hJ97] at h
    clear hJ97
    dsimp only at h
    refine RegI.pure 1 [4] [(4, .slice A91 t93.length c92)] (by kernel_rfl) ?_
    refine RegI.done (by kernel_rfl) ?_
    refine RunsI.ret (.slice A91 t93.length c92) (by kernel_rfl) (by kernel_rfl) ?_
    obtain rfl := Option.some.inj h
    exact ⟨A91, c92, rfl, h94.pick [0] (by decide)⟩
  clear hJ97
  refine RunsI.go 1 [.c 1, .c 2] (by kernel_rfl) ?_
  refine RunsI.region (by kernel_rfl) ?_
  refine RegI.pure 1 [0, 1] [(0, .slice A11 t10.length c12), (1, .func (.func 55) #[] #[.pointer (some ⟨b2, 0, none⟩)])] (by kernel_rfl) ?_
  refine RegI.done (by kernel_rfl) ?_
  refine RunsI.go 1 [.c 3, .c 4] (by kernel_rfl) ?_
  refine RunsI.region (by kernel_rfl) ?_
  refine RegI.pure 2 [0, 1, 8, 9] [(0, .slice A11 t10.length c12), (1, .func (.func 55) #[] #[.pointer (some ⟨b2, 0, none⟩)]), (8, .slice A11 t10.length c12), (9, .func (.func 55) #[] #[.pointer (some ⟨b2, 0, none⟩)])] (by kernel_rfl) ?_
  refine RegI.enter 10 [0, 1] [(0, .slice A11 t10.length c12), (1, .func (.func 55) #[] #[.pointer (some ⟨b2, 0, none⟩)])] (by kernel_rfl) (by kernel_rfl) (by kernel_rfl) (by kernel_rfl) F89 89 rfl [.slice A11 t10.length c12, .func (.func 55) #[] #[.pointer (some ⟨b2, 0, none⟩)]] (by kernel_rfl) (by kernel_rfl) ?_
  obtain ⟨j42, hJ43, h⟩ := of_let h
  have hj44 : ∀ (t39 : Int) (w41 : World), j42 t39 = some r → Holds M0 w0 w41 [own (Rp.pair (Rp.int .i64) (Rp.pair (Rp.int .i64) (Rp.pair (Rp.int .i64) (Rp.pair (Rp.int .u16) (Rp.pair (Rp.int .i64) (Rp.int .u8)))))) 54 (.slice A11 t10.length c12) t10, box b2 3 [.int .i64 p1]] → RegI F53 3 [.c 4] 3 [(0, .slice A11 t10.length c12), (1, .func (.func 55) #[] #[.pointer (some ⟨b2, 0, none⟩)]), (10, .int .i64 t39)] w41 (cont (fun e' w' => RegI F24 3 [.c 4] 4 e' w' (history_Of_24.post M0 w0 r)) 8 []) := by
    intro t39 w41 h h40
    rw [hJ43] at h
    clear hJ43
    dsimp only at h
    refine RegI.pure 1 [0, 1, 5] [(0, .slice A11 t10.length c12), (1, .func (.func 55) #[] #[.pointer (some ⟨b2, 0, none⟩)]), (5, .int .i64 t39)] (by kernel_rfl) ?_
    refine RegI.done (by kernel_rfl) ?_
    refine RunsI.go 2 [.c 6, .c 7, .c 12] (by kernel_rfl) ?_
    refine RunsI.region (by kernel_rfl) ?_
    refine RegI.pure 2 [0, 1, 5, 12] [(0, .slice A11 t10.length c12), (1, .func (.func 55) #[] #[.pointer (some ⟨b2, 0, none⟩)]), (5, .int .i64 t39), (12, .bool (t39 == (-1)))] (by kernel_rfl) ?_
    refine RegI.done (by kernel_rfl) ?_
    rcases of_cond h with ⟨hc45, h⟩ | ⟨hc45, h⟩
    · skip
      refine RunsI.fix 12 true hc45 (by kernel_rfl) (by kernel_rfl) ?_
      refine RunsI.cond true 8 (by kernel_rfl) ?_
      refine RunsI.go 1 [.c 9, .c 10, .c 12] (by kernel_rfl) ?_
      refine RunsI.region (by kernel_rfl) ?_
      refine RegI.pure 2 [4] [(4, .slice A11 t10.length c12)] (by kernel_rfl) ?_
      refine RegI.done (by kernel_rfl) ?_
      refine RunsI.ret (.slice A11 t10.length c12) (by kernel_rfl) (by kernel_rfl) ?_
      refine cont_mk ?_
      refine RegI.only [8] [(8, .slice A11 t10.length c12)] (by kernel_rfl) (by kernel_rfl) ?_
      exact hj98 t10 A11 c12 w41 h (h40.pick [0] (by decide))
    · skip
      refine RunsI.fix 12 false hc45 (by kernel_rfl) (by kernel_rfl) ?_
      refine RunsI.cond false 11 (by kernel_rfl) ?_
      refine RunsI.go 1 [.c 12] (by kernel_rfl) ?_
      refine RunsI.go 2 [.c 14, .c 15, .c 35] (by kernel_rfl) ?_
      refine RunsI.region (by kernel_rfl) ?_
      refine RegI.pure 3 [0, 1, 5, 6] [(0, .slice A11 t10.length c12), (1, .func (.func 55) #[] #[.pointer (some ⟨b2, 0, none⟩)]), (5, .int .i64 t39), (6, .int .i64 (IntKind.wrap .i64 (t39 + 1)))] (by kernel_rfl) ?_
      refine RegI.done (by kernel_rfl) ?_
      refine RunsI.go 2 [.c 17, .lp 17, .blk 0, .c 35] (by kernel_rfl) ?_
      obtain ⟨x77, hx78, h⟩ := of_bind h
      refine RunsI.only [0, 1, 5, 6] [(0, .slice A11 t10.length c12), (1, .func (.func 55) #[] #[.pointer (some ⟨b2, 0, none⟩)]), (5, .int .i64 t39), (6, .int .i64 (IntKind.wrap .i64 (t39 + 1)))] (by kernel_rfl) (by kernel_rfl) ?_
      refine history_Of_24.l1_ok K M0 w0 pA0 pc0 p0 p1 A11 c12 b2 _ x77 ?_ K t10 t39 (IntKind.wrap .i64 (t39 + 1)) w41 hx78 (h40.pick [0, 1] (by decide))
      · intro t79 t80 w82 hq99 h81
        (try rw [hq99] at h)
        dsimp only at h
        refine RunsI.go 1 [.c 36, .c 37] (by kernel_rfl) ?_
        refine RunsI.region (by kernel_rfl) ?_
        refine RegI.pure 2 [0, 5, 36, 37] [(0, .slice A11 t79.length c12), (5, .int .i64 t80), (36, .slice A11 t79.length c12), (37, .int .i64 t80)] (by kernel_rfl) ?_
        obtain ⟨hc83, h⟩ := of_cond0 h
        refine RegI.op (by kernel_rfl) (OpE.cutView 38 0 26 54 t80 h81 (by kernel_rfl) rfl (by kernel_rfl) (by kernel_rfl) hc83 ?_)
        refine RegI.op (by kernel_rfl) (OpE.clearEnd 0 26 54 t80 48 [.int .i64 0, .int .i64 0, .int .i64 0, .int .u16 0, .int .i64 0, .int .u8 0] (Rp.pair (Rp.int .i64) (Rp.pair (Rp.int .i64) (Rp.pair (Rp.int .i64) (Rp.pair (Rp.int .u16) (Rp.pair (Rp.int .i64) (Rp.int .u8)))))) (0, 0, 0, 0, 0, 0) h81 (by kernel_rfl) rfl (by kernel_rfl) (by kernel_rfl) (by kernel_rfl) (fun _ _ => ⟨[_], [_, _, _, _, _], rfl, rfl, ⟨[_], [_, _, _, _], rfl, rfl, ⟨[_], [_, _, _], rfl, rfl, ⟨[_], [_, _], rfl, rfl, ⟨[_], [_], rfl, rfl, rfl⟩⟩⟩⟩⟩) hc83 ?_)
        intro w84 h85 hk86
        refine RegI.done (by kernel_rfl) ?_
        refine RunsI.go 1 [.c 38, .c 39] (by kernel_rfl) ?_
        refine RunsI.region (by kernel_rfl) ?_
        refine RegI.pure 2 [39, 40] [(39, .slice A11 t79.length c12), (40, .int .i64 t80)] (by kernel_rfl) ?_
        obtain ⟨hc87, h⟩ := of_cond0 h
        refine RegI.op (by kernel_rfl) (OpE.cutOwn 41 0 26 54 (some t80) h85 (by kernel_rfl) rfl (by kernel_rfl) (by kernel_rfl) hc87 ?_)
        intro A88 c89 h90
        refine RegI.pure 1 [4] [(4, .slice A88 ((cutL (clrD t79 t80 (0, 0, 0, 0, 0, 0)) 0 t80).length) c89)] (by kernel_rfl) ?_
        refine RegI.done (by kernel_rfl) ?_
        refine RunsI.ret (.slice A88 ((cutL (clrD t79 t80 (0, 0, 0, 0, 0, 0)) 0 t80).length) c89) (by kernel_rfl) (by kernel_rfl) ?_
        refine cont_mk ?_
        refine RegI.only [8] [(8, .slice A88 ((cutL (clrD t79 t80 (0, 0, 0, 0, 0, 0)) 0 t80).length) c89)] (by kernel_rfl) (by kernel_rfl) ?_
        exact hj98 (cutL (clrD t79 t80 (0, 0, 0, 0, 0, 0)) 0 t80) A88 c89 w84 h (h90.pick [0] (by decide))
  clear hJ43
  refine RunsI.go 1 [.c 1, .c 2] (by kernel_rfl) ?_
  refine RunsI.region (by kernel_rfl) ?_
  refine RegI.pure 1 [0, 1] [(0, .slice A11 t10.length c12), (1, .func (.func 55) #[] #[.pointer (some ⟨b2, 0, none⟩)])] (by kernel_rfl) ?_
  refine RegI.done (by kernel_rfl) ?_
  refine RunsI.go 2 [.c 4, .c 5, .c 25] (by kernel_rfl) ?_
  refine RunsI.region (by kernel_rfl) ?_
  refine RegI.pure 3 [0, 1, 7, 8] [(0, .slice A11 t10.length c12), (1, .func (.func 55) #[] #[.pointer (some ⟨b2, 0, none⟩)]), (7, .int .i64 (t10.length : Int)), (8, .int .i64 0)] (by kernel_rfl) ?_
  refine RegI.done (by kernel_rfl) ?_
  refine RunsI.go 2 [.c 7, .lp 7, .blk 0, .c 25] (by kernel_rfl) ?_
  obtain ⟨x32, hx33, h⟩ := of_bind h
  refine RunsI.only [0, 1, 7, 8] [(0, .slice A11 t10.length c12), (1, .func (.func 55) #[] #[.pointer (some ⟨b2, 0, none⟩)]), (7, .int .i64 (t10.length : Int)), (8, .int .i64 0)] (by kernel_rfl) (by kernel_rfl) ?_
  refine history_Of_24.l0_ok K M0 w0 pA0 pc0 p0 p1 t10 (t10.length : Int) A11 c12 b2 _ x32 ?_ ?_ K 0 w6 hx33 (h8.pick [2, 1] (by decide))
  · intro w35 hq100 h34
    (try rw [hq100] at h)
    dsimp only [Lp.elim] at h
    refine RunsI.go 1 [.c 26, .c 27] (by kernel_rfl) ?_
    refine RunsI.region (by kernel_rfl) ?_
    refine RegI.pure 1 [4] [(4, .int .i64 (-1))] (by kernel_rfl) ?_
    refine RegI.done (by kernel_rfl) ?_
    refine RunsI.ret (.int .i64 (-1)) (by kernel_rfl) (by kernel_rfl) ?_
    refine cont_mk ?_
    refine RegI.only [0, 1, 10] [(0, .slice A11 t10.length c12), (1, .func (.func 55) #[] #[.pointer (some ⟨b2, 0, none⟩)]), (10, .int .i64 (-1))] (by kernel_rfl) (by kernel_rfl) ?_
    exact hj44 (-1) w35 h (h34.pick [0, 1] (by decide))
  · intro t36 w38 hq101 h37
    (try rw [hq101] at h)
    dsimp only [Lp.elim] at h
    refine cont_mk ?_
    refine RegI.only [0, 1, 10] [(0, .slice A11 t10.length c12), (1, .func (.func 55) #[] #[.pointer (some ⟨b2, 0, none⟩)]), (10, .int .i64 t36)] (by kernel_rfl) (by kernel_rfl) ?_
    exact hj44 t36 w38 h (h37.pick [0, 1] (by decide))
end

/-! ### strconv.Itoa (function 56) -/
section
def strconv_Itoa_56.post (M0 : Nat → Prop) (w0 : World) (r : ByteArray) : Ending → World → Prop := fun e w => e = .returned (.string r) ∧ Below w0.heap.size w0 w
def strconv_Itoa_56.f (K : Nat) (p0 : Int) : Option ByteArray := cond (in64 p0) (some (⟨(Lib.itoa p0).toArray⟩ : ByteArray)) none
theorem strconv_Itoa_56_ok (K : Nat) (M0 : Nat → Prop) (w0 : World) (p0 : Int) (ho : ∀ b, M0 b → b < w0.heap.size) (hG3 : (gl 3 (tab_3.flatMap en_3)).ok w0 M0) {r : ByteArray} (h : strconv_Itoa_56.f K p0 = some r) : Calls Tryd.prog 56 #[.int .i64 p0] w0 (strconv_Itoa_56.post M0 w0 r) := by
  obtain ⟨hc, h⟩ := of_cond0 h
  obtain rfl := Option.some.inj h
  refine (Tryd.strconv_Itoa p0 (in64_l hc) (in64_r hc) w0 (tabIs_of_gl hG3 (by kernel_rfl) (by kernel_rfl))).mono ?_
  rintro e w' ⟨rfl, k, os, rfl⟩
  exact ⟨rfl, Lib.below_grow _ _ (Nat.le_refl _) _ _⟩
end

/-! ### charabanc/trace.Kind (function 57) -/
section
def trace_Kind_57.post (M0 : Nat → Prop) (w0 : World) (r : ByteArray) : Ending → World → Prop := fun e w => e = .returned (.string r) ∧ Below w0.heap.size w0 w
def trace_Kind_57.f (K : Nat) (p0 : Int) : Option ByteArray := Let (fun (t2 : Bool) => cond t2 (some (⟨#[63]⟩ : ByteArray)) (cond (inR p0 8) (some (rdD tab_1 p0)) none)) (fun j5 => cond (decide (p0 < 1)) (j5 true) (j5 (decide (p0 > 7))))
set_option maxRecDepth 100000 in
theorem trace_Kind_57_ok (K : Nat) (M0 : Nat → Prop) (w0 : World) (p0 : Int) (ho : ∀ b, M0 b → b < w0.heap.size) (hG1 : (gl 1 (tab_1.flatMap en_1)).ok w0 M0) {r : ByteArray} (h : trace_Kind_57.f K p0 = some r) :
    Calls Tryd.prog 57 #[.int .i64 p0] w0 (trace_Kind_57.post M0 w0 r) := by
  unfold trace_Kind_57.f at h
  have h0 : Holds M0 w0 w0 [] := Holds.start ho
  have h0g1 := h0.add (gl 1 (tab_1.flatMap en_1)) rfl ⟨hG1.1, fun hm => hG1.2.1 (hm.elim id (fun hm => absurd hm (by simp [mines, sl, gl]))), hG1.2.2⟩
  have h0 : Holds M0 w0 w0 [gl 1 (tab_1.flatMap en_1)] := h0g1
  refine calls_of F57 rfl [.int .i64 p0] (by kernel_rfl) ?_
  refine RunsI.go 1 [.c 1, .c 2] (by kernel_rfl) ?_
  refine RunsI.region (by kernel_rfl) ?_
  refine RegI.pure 1 [0] [(0, .int .i64 p0)] (by kernel_rfl) ?_
  refine RegI.done (by kernel_rfl) ?_
  refine RunsI.go 2 [.c 4, .c 5, .c 10] (by kernel_rfl) ?_
  refine RunsI.region (by kernel_rfl) ?_
  refine RegI.pure 3 [0, 5] [(0, .int .i64 p0), (5, .bool (decide (p0 < 1)))] (by kernel_rfl) ?_
  obtain ⟨j5, hJ6, h⟩ := of_let h
  have hj7 : ∀ (t2 : Bool) (w4 : World), j5 t2 = some r → Holds M0 w0 w4 [gl 1 (tab_1.flatMap en_1)] → RegI F57 4 [.c 5, .c 10] 6 [(0, .int .i64 p0), (8, .bool t2)] w4 (trace_Kind_57.post M0 w0 r) := by
    intro t2 w4 h h3
    rw [hJ6] at h
    clear hJ6
    dsimp only at h
    refine RegI.done (by kernel_rfl) ?_
    rcases of_cond h with ⟨hc8, h⟩ | ⟨hc8, h⟩
    · skip
      refine RunsI.fix 8 true hc8 (by kernel_rfl) (by kernel_rfl) ?_
      refine RunsI.cond true 6 (by kernel_rfl) ?_
      refine RunsI.go 1 [.c 7, .c 8, .c 10] (by kernel_rfl) ?_
      refine RunsI.region (by kernel_rfl) ?_
      refine RegI.pure 1 [2] [(2, .string (⟨#[63]⟩ : ByteArray))] (by kernel_rfl) ?_
      refine RegI.done (by kernel_rfl) ?_
      refine RunsI.ret (.string (⟨#[63]⟩ : ByteArray)) (by kernel_rfl) (by kernel_rfl) ?_
      obtain rfl := Option.some.inj h
      exact ⟨rfl, h3.below⟩
    · skip
      refine RunsI.fix 8 false hc8 (by kernel_rfl) (by kernel_rfl) ?_
      refine RunsI.cond false 9 (by kernel_rfl) ?_
      refine RunsI.go 1 [.c 10] (by kernel_rfl) ?_
      refine RunsI.go 1 [.c 11, .c 12] (by kernel_rfl) ?_
      refine RunsI.region (by kernel_rfl) ?_
      refine RegI.pure 1 [9] [(9, .int .i64 p0)] (by kernel_rfl) ?_
      obtain ⟨hc9, h⟩ := of_cond0 h
      refine RegI.op (by kernel_rfl) (OpE.run 10 (by kernel_rfl) (run_idxArr (T := 137) (b := 1) (o := 0) (ix := p0) (len := 8) (s := 1) (by kernel_rfl) (by kernel_rfl) hc9) ?_)
      refine RegI.op (by kernel_rfl) (OpE.loadTab 11 0 9 en_1 tab_1 0 1 p0 (.string (rdD tab_1 p0)) (o := 0 + (Int.toNat p0) * 1 + 0) h3 (by kernel_rfl) rfl (fun _ => rfl) (by kernel_rfl) (by omega) hc9 (fun _ => by kernel_rfl) ?_)
      refine RegI.pure 1 [2] [(2, .string (rdD tab_1 p0))] (by kernel_rfl) ?_
      refine RegI.done (by kernel_rfl) ?_
      refine RunsI.ret (.string (rdD tab_1 p0)) (by kernel_rfl) (by kernel_rfl) ?_
      obtain rfl := Option.some.inj h
      exact ⟨rfl, h3.below⟩
  clear hJ6
  rcases of_cond h with ⟨hc1, h⟩ | ⟨hc1, h⟩
  · skip
    refine RegI.fix 5 true hc1 (by kernel_rfl) (by kernel_rfl) ?_
    refine RegI.pure 3 [0, 8] [(0, .int .i64 p0), (8, .bool true)] (by kernel_rfl) ?_
    refine RegI.only [0, 8] [(0, .int .i64 p0), (8, .bool true)] (by kernel_rfl) (by kernel_rfl) ?_
    exact hj7 true w0 h (h0.pick [0] (by decide))
  · skip
    refine RegI.fix 5 false hc1 (by kernel_rfl) (by kernel_rfl) ?_
    refine RegI.pure 3 [0, 8] [(0, .int .i64 p0), (8, .bool (decide (p0 > 7)))] (by kernel_rfl) ?_
    refine RegI.only [0, 8] [(0, .int .i64 p0), (8, .bool (decide (p0 > 7)))] (by kernel_rfl) (by kernel_rfl) ?_
    exact hj7 (decide (p0 > 7)) w0 h (h0.pick [0] (by decide))
end

/-! ### strings.CutPrefix (function 93) -/
section
def strings_CutPrefix_93.post (M0 : Nat → Prop) (w0 : World) (r : ByteArray × Bool) : Ending → World → Prop := fun e w => e = .returned (.tuple #[.string r.1, .bool r.2]) ∧ Below w0.heap.size w0 w
def strings_CutPrefix_93.f (K : Nat) (p0 : ByteArray) (p1 : ByteArray) : Option (ByteArray × Bool) := some ((⟨(Lib.trimPrefix p0.data.toList p1.data.toList).toArray⟩ : ByteArray), Lib.hasPrefix p0.data.toList p1.data.toList)
theorem strings_CutPrefix_93_ok (K : Nat) (M0 : Nat → Prop) (w0 : World) (p0 : ByteArray) (p1 : ByteArray) (ho : ∀ b, M0 b → b < w0.heap.size) {r : ByteArray × Bool} (h : strings_CutPrefix_93.f K p0 p1 = some r) : Calls Tryd.prog 93 #[.string p0, .string p1] w0 (strings_CutPrefix_93.post M0 w0 r) := by
  obtain rfl := Option.some.inj h
  refine (Tryd.strings_CutPrefix p0 p1 w0).mono ?_
  rintro e w' ⟨rfl, rfl⟩
  exact ⟨rfl, Below.refl _ _⟩
end

/-! ### strings.Repeat (function 95) -/
section
def strings_Repeat_95.post (M0 : Nat → Prop) (w0 : World) (r : ByteArray) : Ending → World → Prop := fun e w => e = .returned (.string r) ∧ Below w0.heap.size w0 w
def strings_Repeat_95.f (K : Nat) (p0 : ByteArray) (p1 : Int) : Option ByteArray := cond (repR p0.size p1) (some (⟨(Lib.repeatL p0.data.toList p1.toNat).toArray⟩ : ByteArray)) none
theorem strings_Repeat_95_ok (K : Nat) (M0 : Nat → Prop) (w0 : World) (p0 : ByteArray) (p1 : Int) (ho : ∀ b, M0 b → b < w0.heap.size) {r : ByteArray} (h : strings_Repeat_95.f K p0 p1 = some r) : Calls Tryd.prog 95 #[.string p0, .int .i64 p1] w0 (strings_Repeat_95.post M0 w0 r) := by
  obtain ⟨hc, h⟩ := of_cond0 h
  obtain rfl := Option.some.inj h
  obtain ⟨h1, h2, h3⟩ := repR_of hc
  have hq : ((p1.toNat : Nat) : Int) = p1 := Int.toNat_of_nonneg h1
  rw [← hq]
  refine (Tryd.strings_Repeat p0 p1.toNat w0 h2 h3).mono ?_
  rintro e w' ⟨rfl, hb⟩
  exact ⟨by rw [hq], hb⟩
end

/-! ### charabanc/text.Hex (function 58) -/
section
def text_Hex_58.post (M0 : Nat → Prop) (w0 : World) (r : ByteArray) : Ending → World → Prop := fun e w => e = .returned (.string r) ∧ Below w0.heap.size w0 w
def text_Hex_58.l0 (K : Nat) (p0 : Int) (p1 : Int) : Nat → Int → (List Int) → Int → Option (Int × (List Int) × Int)
  | 0, _, _, _ => none
  | k + 1, t13, t15, t16 => cond (decide (t13 ≥ 16)) (cond (inR (band .u64 t13 15) (⟨#[48, 49, 50, 51, 52, 53, 54, 55, 56, 57, 97, 98, 99, 100, 101, 102, 103, 104, 105, 106, 107, 108, 109, 110, 111, 112, 113, 114, 115, 116, 117, 118, 119, 120, 121, 122]⟩ : ByteArray).size) (cond (inR (IntKind.wrap .i64 (t16 - 1)) 65) (cond (inR (IntKind.wrap .i64 (t16 - 1)) t15.length) (text_Hex_58.l0 K p0 p1 k (Int.fdiv t13 (2 ^ 4)) (stD t15 (IntKind.wrap .i64 (t16 - 1)) (btD (⟨#[48, 49, 50, 51, 52, 53, 54, 55, 56, 57, 97, 98, 99, 100, 101, 102, 103, 104, 105, 106, 107, 108, 109, 110, 111, 112, 113, 114, 115, 116, 117, 118, 119, 120, 121, 122]⟩ : ByteArray) (band .u64 t13 15))) (IntKind.wrap .i64 (t16 - 1))) none) none) none) (some (t13, t15, t16))
set_option maxRecDepth 100000 in
theorem text_Hex_58.l0_ok (K : Nat) (M0 : Nat → Prop) (w0 : World) (p0 : Int) (p1 : Int) (b14 : Nat) (R : Ending → World → Prop) (x : Int × (List Int) × Int) (hk0 : ∀ (t24 : Int) (t25 : List Int) (t26 : Int) (w1 : World), x = (t24, t25, t26) → Holds M0 w0 w1 [box b14 195 (List.flatMap (fun (x : Int) => ([.int .u8 x] : List Value)) t25), gl 3 (tab_3.flatMap en_3), gl 7 (tab_7.flatMap en_7), gl 8 (tab_8.flatMap en_8)] → RunsI F142 [.c 43, .c 68] [(0, .slice none 0 0), (1, .int .u64 t24), (3, .bool (decide (p0 < 0))), (4, .bool false), (10, .slice none 0 0), (11, .string (⟨#[]⟩ : ByteArray)), (12, .pointer (some ⟨b14, 0, none⟩)), (13, .int .i64 t26)] w1 R) :
    ∀ (k : Nat) (t13 : Int) (t15 : List Int) (t16 : Int) (w : World), text_Hex_58.l0 K p0 p1 k t13 t15 t16 = some x → Holds M0 w0 w [box b14 195 (List.flatMap (fun (x : Int) => ([.int .u8 x] : List Value)) t15), gl 3 (tab_3.flatMap en_3), gl 7 (tab_7.flatMap en_7), gl 8 (tab_8.flatMap en_8)] → RunsI F142 [.c 31, .lp 31, .blk 0, .c 43, .c 68] [(0, .slice none 0 0), (1, .int .u64 t13), (3, .bool (decide (p0 < 0))), (4, .bool false), (10, .slice none 0 0), (11, .string (⟨#[]⟩ : ByteArray)), (12, .pointer (some ⟨b14, 0, none⟩)), (13, .int .i64 t16), (14, .int .u64 4), (15, .int .u64 16), (16, .int .u64 15)] w R := by
  intro k
  induction k with
  | zero => intro t13 t15 t16 w h hH; exact absurd h (by simp [text_Hex_58.l0])
  | succ k ih =>
    intro t13 t15 t16 w h hH
    rw [text_Hex_58.l0.eq_2] at h
    refine RunsI.go 1 [.c 32, .c 37, .lp 31, .blk 0, .c 43, .c 68] (by kernel_rfl) ?_
    refine RunsI.go 1 [.c 33, .c 34, .c 37, .lp 31, .blk 0, .c 43, .c 68] (by kernel_rfl) ?_
    refine RunsI.region (by kernel_rfl) ?_
    refine RegI.pure 3 [0, 1, 3, 4, 10, 11, 12, 13, 14, 15, 16, 46] [(0, .slice none 0 0), (1, .int .u64 t13), (3, .bool (decide (p0 < 0))), (4, .bool false), (10, .slice none 0 0), (11, .string (⟨#[]⟩ : ByteArray)), (12, .pointer (some ⟨b14, 0, none⟩)), (13, .int .i64 t16), (14, .int .u64 4), (15, .int .u64 16), (16, .int .u64 15), (46, .bool (decide (t13 ≥ 16)))] (by kernel_rfl) ?_
    refine RegI.done (by kernel_rfl) ?_
    rcases of_cond h with ⟨hc17, h⟩ | ⟨hc17, h⟩
    · skip
      refine RunsI.fix 46 true hc17 (by kernel_rfl) (by kernel_rfl) ?_
      refine RunsI.cond true 35 (by kernel_rfl) ?_
      refine RunsI.go 1 [.c 37, .lp 31, .blk 0, .c 43, .c 68] (by kernel_rfl) ?_
      refine RunsI.go 2 [.c 39, .c 40, .blk 1, .lp 31, .blk 0, .c 43, .c 68] (by kernel_rfl) ?_
      refine RunsI.region (by kernel_rfl) ?_
      refine RegI.pure 3 [0, 1, 3, 4, 10, 11, 12, 13, 14, 15, 16] [(0, .slice none 0 0), (1, .int .u64 t13), (3, .bool (decide (p0 < 0))), (4, .bool false), (10, .slice none 0 0), (11, .string (⟨#[]⟩ : ByteArray)), (12, .pointer (some ⟨b14, 0, none⟩)), (13, .int .i64 (IntKind.wrap .i64 (t16 - 1))), (14, .int .u64 4), (15, .int .u64 16), (16, .int .u64 15)] (by kernel_rfl) ?_
      refine RegI.done (by kernel_rfl) ?_
      refine RunsI.go 1 [.c 41, .c 42, .blk 1, .lp 31, .blk 0, .c 43, .c 68] (by kernel_rfl) ?_
      refine RunsI.region (by kernel_rfl) ?_
      refine RegI.pure 4 [0, 1, 3, 4, 10, 11, 12, 13, 14, 15, 16, 49, 52] [(0, .slice none 0 0), (1, .int .u64 t13), (3, .bool (decide (p0 < 0))), (4, .bool false), (10, .slice none 0 0), (11, .string (⟨#[]⟩ : ByteArray)), (12, .pointer (some ⟨b14, 0, none⟩)), (13, .int .i64 (IntKind.wrap .i64 (t16 - 1))), (14, .int .u64 4), (15, .int .u64 16), (16, .int .u64 15), (49, .int .i64 (IntKind.wrap .i64 (t16 - 1))), (52, .int .u64 (band .u64 t13 15))] (by kernel_rfl) ?_
      obtain ⟨hc18, h⟩ := of_cond0 h
      refine RegI.op (by kernel_rfl) (OpE.run 53 (by kernel_rfl) (run_strIdx (T0 := 9) (s := (⟨#[48, 49, 50, 51, 52, 53, 54, 55, 56, 57, 97, 98, 99, 100, 101, 102, 103, 104, 105, 106, 107, 108, 109, 110, 111, 112, 113, 114, 115, 116, 117, 118, 119, 120, 121, 122]⟩ : ByteArray)) (j := (band .u64 t13 15)) (by kernel_rfl) (by kernel_rfl) hc18) ?_)
      obtain ⟨hc19, h⟩ := of_cond0 h
      refine RegI.op (by kernel_rfl) (OpE.run 54 (by kernel_rfl) (run_idxArr (T := 195) (b := b14) (o := 0) (ix := (IntKind.wrap .i64 (t16 - 1))) (len := 65) (s := 1) (by kernel_rfl) (by kernel_rfl) hc19) ?_)
      obtain ⟨hc20, h⟩ := of_cond0 h
      refine RegI.op (by kernel_rfl) (OpE.storeArr (en := (fun (x : Int) => ([.int .u8 x] : List Value))) 0 5 b14 1 (IntKind.wrap .i64 (t16 - 1)) (.int .u8 (btD (⟨#[48, 49, 50, 51, 52, 53, 54, 55, 56, 57, 97, 98, 99, 100, 101, 102, 103, 104, 105, 106, 107, 108, 109, 110, 111, 112, 113, 114, 115, 116, 117, 118, 119, 120, 121, 122]⟩ : ByteArray) (band .u64 t13 15))) (xs := t15) (btD (⟨#[48, 49, 50, 51, 52, 53, 54, 55, 56, 57, 97, 98, 99, 100, 101, 102, 103, 104, 105, 106, 107, 108, 109, 110, 111, 112, 113, 114, 115, 116, 117, 118, 119, 120, 121, 122]⟩ : ByteArray) (band .u64 t13 15)) (o := 0 + (Int.toNat (IntKind.wrap .i64 (t16 - 1))) * 1) hH (by kernel_rfl) (by kernel_rfl) rfl (fun _ => rfl) (by omega) (by kernel_rfl) (by kernel_rfl) hc20 ?_)
      intro w21 h22 hk23
      refine RegI.done (by kernel_rfl) ?_
      refine RunsI.region (by kernel_rfl) ?_
      refine RegI.pure 4 [0, 1, 3, 4, 10, 11, 12, 13, 14, 15, 16] [(0, .slice none 0 0), (1, .int .u64 (Int.fdiv t13 (2 ^ 4))), (3, .bool (decide (p0 < 0))), (4, .bool false), (10, .slice none 0 0), (11, .string (⟨#[]⟩ : ByteArray)), (12, .pointer (some ⟨b14, 0, none⟩)), (13, .int .i64 (IntKind.wrap .i64 (t16 - 1))), (14, .int .u64 4), (15, .int .u64 16), (16, .int .u64 15)] (by kernel_rfl) ?_
      refine RegI.done (by kernel_rfl) ?_
      refine RunsI.go 2 [.c 31, .lp 31, .blk 0, .c 43, .c 68] (by kernel_rfl) ?_
      refine RunsI.only [0, 1, 3, 4, 10, 11, 12, 13, 14, 15, 16] [(0, .slice none 0 0), (1, .int .u64 (Int.fdiv t13 (2 ^ 4))), (3, .bool (decide (p0 < 0))), (4, .bool false), (10, .slice none 0 0), (11, .string (⟨#[]⟩ : ByteArray)), (12, .pointer (some ⟨b14, 0, none⟩)), (13, .int .i64 (IntKind.wrap .i64 (t16 - 1))), (14, .int .u64 4), (15, .int .u64 16), (16, .int .u64 15)] (by kernel_rfl) (by kernel_rfl) ?_
      exact ih (Int.fdiv t13 (2 ^ 4)) (stD t15 (IntKind.wrap .i64 (t16 - 1)) (btD (⟨#[48, 49, 50, 51, 52, 53, 54, 55, 56, 57, 97, 98, 99, 100, 101, 102, 103, 104, 105, 106, 107, 108, 109, 110, 111, 112, 113, 114, 115, 116, 117, 118, 119, 120, 121, 122]⟩ : ByteArray) (band .u64 t13 15))) (IntKind.wrap .i64 (t16 - 1)) w21 h (h22.pick [0, 1, 2, 3] (by decide))
    · skip
      refine RunsI.fix 46 false hc17 (by kernel_rfl) (by kernel_rfl) ?_
      refine RunsI.cond false 36 (by kernel_rfl) ?_
      refine RunsI.go 1 [.c 43, .c 68] (by kernel_rfl) ?_
      refine RunsI.only [0, 1, 3, 4, 10, 11, 12, 13] [(0, .slice none 0 0), (1, .int .u64 t13), (3, .bool (decide (p0 < 0))), (4, .bool false), (10, .slice none 0 0), (11, .string (⟨#[]⟩ : ByteArray)), (12, .pointer (some ⟨b14, 0, none⟩)), (13, .int .i64 t16)] (by kernel_rfl) (by kernel_rfl) ?_
      exact hk0 t13 t15 t16 w (Option.some.inj h).symm (hH.pick [0, 1, 2, 3] (by decide))
def text_Hex_58.f (K : Nat) (p0 : Int) (p1 : Int) : Option ByteArray := Let (fun (t7 : Int) => (text_Hex_58.l0 K p0 p1 K t7 (List.replicate 65 0) 65).bind (fun yx27 => cond (inR yx27.1 (⟨#[48, 49, 50, 51, 52, 53, 54, 55, 56, 57, 97, 98, 99, 100, 101, 102, 103, 104, 105, 106, 107, 108, 109, 110, 111, 112, 113, 114, 115, 116, 117, 118, 119, 120, 121, 122]⟩ : ByteArray).size) (cond (inR (IntKind.wrap .i64 (yx27.2.2 - 1)) 65) (cond (inR (IntKind.wrap .i64 (yx27.2.2 - 1)) yx27.2.1.length) (Let (fun (yj50 : (List Int) × Int) => cond (cutR yj50.2 65 65) (cond (Nat.beq yj50.1.length 65) ((strings_CutPrefix_93.f K (strOf (cutL yj50.1 yj50.2 65)) (⟨#[45]⟩ : ByteArray)).bind fun yt59 => Let (fun (t68 : ByteArray) => cond yt59.2 (cond (mayCat (⟨#[45]⟩ : ByteArray).size t68.size) (cond (mayCat ((⟨#[45]⟩ : ByteArray) ++ t68).size (⟨#[104]⟩ : ByteArray).size) (some (((⟨#[45]⟩ : ByteArray) ++ t68) ++ (⟨#[104]⟩ : ByteArray))) none) none) (cond (mayCat t68.size (⟨#[104]⟩ : ByteArray).size) (some (t68 ++ (⟨#[104]⟩ : ByteArray))) none)) (fun j71 => cond (decide ((IntKind.wrap .i64 ((if (if 8 < p1 then 8 else p1) > 0 then (if 8 < p1 then 8 else p1) else 0) - (yt59.1.size : Int))) > 0)) ((strings_Repeat_95.f K (⟨#[48]⟩ : ByteArray) (IntKind.wrap .i64 ((if (if 8 < p1 then 8 else p1) > 0 then (if 8 < p1 then 8 else p1) else 0) - (yt59.1.size : Int)))).bind fun t66 => cond (mayCat t66.size yt59.1.size) (j71 (t66 ++ yt59.1)) none) (j71 yt59.1))) none) none) (fun j50 => cond (decide (p0 < 0)) (cond (inR (IntKind.wrap .i64 ((IntKind.wrap .i64 (yx27.2.2 - 1)) - 1)) 65) (cond (inR (IntKind.wrap .i64 ((IntKind.wrap .i64 (yx27.2.2 - 1)) - 1)) (stD yx27.2.1 (IntKind.wrap .i64 (yx27.2.2 - 1)) (btD (⟨#[48, 49, 50, 51, 52, 53, 54, 55, 56, 57, 97, 98, 99, 100, 101, 102, 103, 104, 105, 106, 107, 108, 109, 110, 111, 112, 113, 114, 115, 116, 117, 118, 119, 120, 121, 122]⟩ : ByteArray) yx27.1)).length) (j50 ((stD (stD yx27.2.1 (IntKind.wrap .i64 (yx27.2.2 - 1)) (btD (⟨#[48, 49, 50, 51, 52, 53, 54, 55, 56, 57, 97, 98, 99, 100, 101, 102, 103, 104, 105, 106, 107, 108, 109, 110, 111, 112, 113, 114, 115, 116, 117, 118, 119, 120, 121, 122]⟩ : ByteArray) yx27.1)) (IntKind.wrap .i64 ((IntKind.wrap .i64 (yx27.2.2 - 1)) - 1)) 45), (IntKind.wrap .i64 ((IntKind.wrap .i64 (yx27.2.2 - 1)) - 1)))) none) none) (j50 ((stD yx27.2.1 (IntKind.wrap .i64 (yx27.2.2 - 1)) (btD (⟨#[48, 49, 50, 51, 52, 53, 54, 55, 56, 57, 97, 98, 99, 100, 101, 102, 103, 104, 105, 106, 107, 108, 109, 110, 111, 112, 113, 114, 115, 116, 117, 118, 119, 120, 121, 122]⟩ : ByteArray) yx27.1)), (IntKind.wrap .i64 (yx27.2.2 - 1)))))) none) none) none)) (fun j10 => cond (decide (p0 < 0)) (j10 (IntKind.wrap .u64 (0 - (IntKind.wrap .u64 p0)))) (j10 (IntKind.wrap .u64 p0)))
set_option maxRecDepth 100000 in
theorem text_Hex_58_ok (K : Nat) (M0 : Nat → Prop) (w0 : World) (p0 : Int) (p1 : Int) (ho : ∀ b, M0 b → b < w0.heap.size) (hG3 : (gl 3 (tab_3.flatMap en_3)).ok w0 M0) (hG7 : (gl 7 (tab_7.flatMap en_7)).ok w0 M0) (hG8 : (gl 8 (tab_8.flatMap en_8)).ok w0 M0) {r : ByteArray} (h : text_Hex_58.f K p0 p1 = some r) :
    Calls Tryd.prog 58 #[.int .i64 p0, .int .i64 p1] w0 (text_Hex_58.post M0 w0 r) := by
  unfold text_Hex_58.f at h
  have h0 : Holds M0 w0 w0 [] := Holds.start ho
  have h0g3 := h0.add (gl 3 (tab_3.flatMap en_3)) rfl ⟨hG3.1, fun hm => hG3.2.1 (hm.elim id (fun hm => absurd hm (by simp [mines, sl, gl]))), hG3.2.2⟩
  have h0g7 := h0g3.add (gl 7 (tab_7.flatMap en_7)) rfl ⟨hG7.1, fun hm => hG7.2.1 (hm.elim id (fun hm => absurd hm (by simp [mines, sl, gl]))), hG7.2.2⟩
  have h0g8 := h0g7.add (gl 8 (tab_8.flatMap en_8)) rfl ⟨hG8.1, fun hm => hG8.2.1 (hm.elim id (fun hm => absurd hm (by simp [mines, sl, gl]))), hG8.2.2⟩
  have h0 : Holds M0 w0 w0 [gl 3 (tab_3.flatMap en_3), gl 7 (tab_7.flatMap en_7), gl 8 (tab_8.flatMap en_8)] := h0g8
  refine calls_of F58 rfl [.int .i64 p0, .int .i64 p1] (by kernel_rfl) ?_
  refine RunsI.go 1 [.c 1, .c 2] (by kernel_rfl) ?_
  refine RunsI.region (by kernel_rfl) ?_
  refine RegI.pure 1 [0, 1] [(0, .int .i64 p0), (1, .int .i64 p1)] (by kernel_rfl) ?_
  refine RegI.done (by kernel_rfl) ?_
  refine RunsI.go 1 [.c 3, .c 4] (by kernel_rfl) ?_
  refine RunsI.region (by kernel_rfl) ?_
  refine RegI.pure 1 [1, 9] [(1, .int .i64 p1), (9, .int .i64 p0)] (by kernel_rfl) ?_
  refine RegI.enter 10 [1] [(1, .int .i64 p1)] (by kernel_rfl) (by kernel_rfl) (by kernel_rfl) (by kernel_rfl) F94 94 rfl [.int .i64 p0, .int .i64 16] (by kernel_rfl) (by kernel_rfl) ?_
  refine RunsI.go 1 [.c 1, .c 2] (by kernel_rfl) ?_
  refine RunsI.region (by kernel_rfl) ?_
  refine RegI.pure 1 [0, 1] [(0, .int .i64 p0), (1, .int .i64 16)] (by kernel_rfl) ?_
  refine RegI.done (by kernel_rfl) ?_
  refine RunsI.go 1 [.c 3, .c 4] (by kernel_rfl) ?_
  refine RunsI.region (by kernel_rfl) ?_
  refine RegI.pure 2 [5, 6] [(5, .int .i64 p0), (6, .int .i64 16)] (by kernel_rfl) ?_
  refine RegI.enter 7 [] [] (by kernel_rfl) (by kernel_rfl) (by kernel_rfl) (by kernel_rfl) F122 122 rfl [.int .i64 p0, .int .i64 16] (by kernel_rfl) (by kernel_rfl) ?_
  refine RunsI.go 1 [.c 1, .c 2] (by kernel_rfl) ?_
  refine RunsI.region (by kernel_rfl) ?_
  refine RegI.pure 1 [0, 1] [(0, .int .i64 p0), (1, .int .i64 16)] (by kernel_rfl) ?_
  refine RegI.done (by kernel_rfl) ?_
  refine RunsI.go 2 [.c 4, .c 5, .c 42] (by kernel_rfl) ?_
  refine RunsI.region (by kernel_rfl) ?_
  refine RegI.pure 2 [0, 1, 11] [(0, .int .i64 p0), (1, .int .i64 16), (11, .bool false)] (by kernel_rfl) ?_
  refine RegI.done (by kernel_rfl) ?_
  refine RunsI.cond false 41 (by kernel_rfl) ?_
  refine RunsI.go 2 [.c 43, .c 44] (by kernel_rfl) ?_
  refine RunsI.region (by kernel_rfl) ?_
  refine RegI.pure 5 [46, 47, 49] [(46, .int .u64 (IntKind.wrap .u64 p0)), (47, .int .i64 16), (49, .bool (decide (p0 < 0)))] (by kernel_rfl) ?_
  refine RegI.enter 50 [] [] (by kernel_rfl) (by kernel_rfl) (by kernel_rfl) (by kernel_rfl) F142 142 rfl [.slice none 0 0, .int .u64 (IntKind.wrap .u64 p0), .int .i64 16, .bool (decide (p0 < 0)), .bool false] (by kernel_rfl) (by kernel_rfl) ?_
  refine RunsI.go 1 [.c 1, .c 2] (by kernel_rfl) ?_
  refine RunsI.region (by kernel_rfl) ?_
  refine RegI.pure 2 [0, 1, 2, 3, 4, 10, 11] [(0, .slice none 0 0), (1, .int .u64 (IntKind.wrap .u64 p0)), (2, .int .i64 16), (3, .bool (decide (p0 < 0))), (4, .bool false), (10, .slice none 0 0), (11, .string (⟨#[]⟩ : ByteArray))] (by kernel_rfl) ?_
  refine RegI.done (by kernel_rfl) ?_
  refine RunsI.go 2 [.c 4, .c 5, .c 8] (by kernel_rfl) ?_
  refine RunsI.region (by kernel_rfl) ?_
  refine RegI.pure 10 [0, 1, 2, 3, 4, 10, 11, 28] [(0, .slice none 0 0), (1, .int .u64 (IntKind.wrap .u64 p0)), (2, .int .i64 16), (3, .bool (decide (p0 < 0))), (4, .bool false), (10, .slice none 0 0), (11, .string (⟨#[]⟩ : ByteArray)), (28, .bool false)] (by kernel_rfl) ?_
  refine RegI.done (by kernel_rfl) ?_
  refine RunsI.cond false 7 (by kernel_rfl) ?_
  refine RunsI.go 2 [.c 9, .c 10] (by kernel_rfl) ?_
  refine RunsI.region (by kernel_rfl) ?_
  refine RegI.op (by kernel_rfl) (OpE.box 12 195 (List.flatMap (fun (x : Int) => ([.int .u8 x] : List Value)) (List.replicate 65 0)) h0 (by kernel_rfl) (by kernel_rfl) ?_)
  intro w1 b2 h3 hb4 hn5
  refine RegI.done (by kernel_rfl) ?_
  refine RunsI.go 1 [.c 11, .c 12] (by kernel_rfl) ?_
  refine RunsI.region (by kernel_rfl) ?_
  refine RegI.pure 1 [0, 1, 2, 3, 4, 10, 11, 12, 13] [(0, .slice none 0 0), (1, .int .u64 (IntKind.wrap .u64 p0)), (2, .int .i64 16), (3, .bool (decide (p0 < 0))), (4, .bool false), (10, .slice none 0 0), (11, .string (⟨#[]⟩ : ByteArray)), (12, .pointer (some ⟨b2, 0, none⟩)), (13, .int .i64 65)] (by kernel_rfl) ?_
  refine RegI.done (by kernel_rfl) ?_
  refine RunsI.go 2 [.c 14, .c 15, .c 18] (by kernel_rfl) ?_
  refine RunsI.region (by kernel_rfl) ?_
  refine RegI.pure 1 [0, 1, 2, 3, 4, 10, 11, 12, 13, 30] [(0, .slice none 0 0), (1, .int .u64 (IntKind.wrap .u64 p0)), (2, .int .i64 16), (3, .bool (decide (p0 < 0))), (4, .bool false), (10, .slice none 0 0), (11, .string (⟨#[]⟩ : ByteArray)), (12, .pointer (some ⟨b2, 0, none⟩)), (13, .int .i64 65), (30, .bool (decide (p0 < 0)))] (by kernel_rfl) ?_
  refine RegI.done (by kernel_rfl) ?_
  obtain ⟨j10, hJ11, h⟩ := of_let h
  have hj12 : ∀ (t7 : Int) (w9 : World), j10 t7 = some r → Holds M0 w0 w9 [box b2 195 (List.flatMap (fun (x : Int) => ([.int .u8 x] : List Value)) (List.replicate 65 0)), gl 3 (tab_3.flatMap en_3), gl 7 (tab_7.flatMap en_7), gl 8 (tab_8.flatMap en_8)] → RunsI F142 [.c 18] [(0, .slice none 0 0), (1, .int .u64 t7), (2, .int .i64 16), (3, .bool (decide (p0 < 0))), (4, .bool false), (10, .slice none 0 0), (11, .string (⟨#[]⟩ : ByteArray)), (12, .pointer (some ⟨b2, 0, none⟩)), (13, .int .i64 65)] w9 (cont (fun e' w' => RegI F122 43 [.c 44] 6 e' w' (cont (fun e' w' => RegI F94 3 [.c 4] 3 e' w' (cont (fun e' w' => RegI F58 3 [.c 4] 2 e' w' (text_Hex_58.post M0 w0 r)) 10 [(1, .int .i64 p1)])) 7 [])) 50 []) := by
    intro t7 w9 h h8
    rw [hJ11] at h
    clear hJ11
    dsimp only at h
    refine RunsI.go 2 [.c 20, .c 21, .c 68] (by kernel_rfl) ?_
    refine RunsI.region (by kernel_rfl) ?_
    refine RegI.pure 1 [0, 1, 2, 3, 4, 10, 11, 12, 13, 33] [(0, .slice none 0 0), (1, .int .u64 t7), (2, .int .i64 16), (3, .bool (decide (p0 < 0))), (4, .bool false), (10, .slice none 0 0), (11, .string (⟨#[]⟩ : ByteArray)), (12, .pointer (some ⟨b2, 0, none⟩)), (13, .int .i64 65), (33, .int .i64 16)] (by kernel_rfl) ?_
    refine RegI.enter 34 [0, 1, 2, 3, 4, 10, 11, 12, 13] [(0, .slice none 0 0), (1, .int .u64 t7), (2, .int .i64 16), (3, .bool (decide (p0 < 0))), (4, .bool false), (10, .slice none 0 0), (11, .string (⟨#[]⟩ : ByteArray)), (12, .pointer (some ⟨b2, 0, none⟩)), (13, .int .i64 65)] (by kernel_rfl) (by kernel_rfl) (by kernel_rfl) (by kernel_rfl) F155 155 rfl [.int .i64 16] (by kernel_rfl) (by kernel_rfl) ?_
    refine RunsI.go 1 [.c 1, .c 2] (by kernel_rfl) ?_
    refine RunsI.region (by kernel_rfl) ?_
    refine RegI.pure 1 [0] [(0, .int .i64 16)] (by kernel_rfl) ?_
    refine RegI.done (by kernel_rfl) ?_
    refine RunsI.go 1 [.c 3, .c 4] (by kernel_rfl) ?_
    refine RunsI.region (by kernel_rfl) ?_
    refine RegI.pure 6 [2] [(2, .bool true)] (by kernel_rfl) ?_
    refine RegI.done (by kernel_rfl) ?_
    refine RunsI.ret (.bool true) (by kernel_rfl) (by kernel_rfl) ?_
    refine cont_mk ?_
    refine RegI.done (by kernel_rfl) ?_
    refine RunsI.cond true 22 (by kernel_rfl) ?_
    refine RunsI.go 1 [.c 23, .c 24, .c 68] (by kernel_rfl) ?_
    refine RunsI.region (by kernel_rfl) ?_
    refine RegI.pure 2 [0, 1, 2, 3, 4, 10, 11, 12, 13, 36] [(0, .slice none 0 0), (1, .int .u64 t7), (2, .int .i64 16), (3, .bool (decide (p0 < 0))), (4, .bool false), (10, .slice none 0 0), (11, .string (⟨#[]⟩ : ByteArray)), (12, .pointer (some ⟨b2, 0, none⟩)), (13, .int .i64 65), (36, .int .u64 16)] (by kernel_rfl) ?_
    refine RegI.enter 37 [0, 1, 2, 3, 4, 10, 11, 12, 13] [(0, .slice none 0 0), (1, .int .u64 t7), (2, .int .i64 16), (3, .bool (decide (p0 < 0))), (4, .bool false), (10, .slice none 0 0), (11, .string (⟨#[]⟩ : ByteArray)), (12, .pointer (some ⟨b2, 0, none⟩)), (13, .int .i64 65)] (by kernel_rfl) (by kernel_rfl) (by kernel_rfl) (by kernel_rfl) F156 156 rfl [.int .u64 16] (by kernel_rfl) (by kernel_rfl) ?_
    refine RunsI.go 1 [.c 1, .c 2] (by kernel_rfl) ?_
    refine RunsI.region (by kernel_rfl) ?_
    refine RegI.pure 1 [0] [(0, .int .u64 16)] (by kernel_rfl) ?_
    refine RegI.done (by kernel_rfl) ?_
    refine RunsI.go 1 [.c 3, .c 8] (by kernel_rfl) ?_
    refine RunsI.cond false 7 (by kernel_rfl) ?_
    refine RunsI.go 2 [.c 9, .c 10] (by kernel_rfl) ?_
    refine RunsI.region (by kernel_rfl) ?_
    refine RegI.pure 1 [6] [(6, .int .u64 16)] (by kernel_rfl) ?_
    refine RegI.enter 7 [] [] (by kernel_rfl) (by kernel_rfl) (by kernel_rfl) (by kernel_rfl) F162 162 rfl [.int .u64 16] (by kernel_rfl) (by kernel_rfl) ?_
    refine RunsI.go 1 [.c 1, .c 2] (by kernel_rfl) ?_
    refine RunsI.region (by kernel_rfl) ?_
    refine RegI.pure 1 [0] [(0, .int .u64 16)] (by kernel_rfl) ?_
    refine RegI.done (by kernel_rfl) ?_
    refine RunsI.go 2 [.c 4, .c 5, .c 10] (by kernel_rfl) ?_
    refine RunsI.region (by kernel_rfl) ?_
    refine RegI.pure 2 [0, 4] [(0, .int .u64 16), (4, .bool false)] (by kernel_rfl) ?_
    refine RegI.done (by kernel_rfl) ?_
    refine RunsI.cond false 9 (by kernel_rfl) ?_
    refine RunsI.go 2 [.c 11, .c 12] (by kernel_rfl) ?_
    refine RunsI.region (by kernel_rfl) ?_
    refine RegI.pure 6 [10] [(10, .int .u64 15)] (by kernel_rfl) ?_
    refine RegI.op (by kernel_rfl) (OpE.run 11 (by kernel_rfl) (run_idxArr (T := 204) (b := 8) (o := 0) (ix := 15) (len := 64) (s := 1) (by kernel_rfl) (by kernel_rfl) (by kernel_rfl)) ?_)
    refine RegI.op (by kernel_rfl) (OpE.loadTab 12 3 5 en_8 tab_8 0 1 15 (.int .u8 4) (o := 0 + (Int.toNat 15) * 1 + 0) h8 (by kernel_rfl) rfl (fun _ => rfl) (by kernel_rfl) (by omega) (by kernel_rfl) (fun _ => by kernel_rfl) ?_)
    refine RegI.pure 2 [2] [(2, .int .i64 4)] (by kernel_rfl) ?_
    refine RegI.done (by kernel_rfl) ?_
    refine RunsI.ret (.int .i64 4) (by kernel_rfl) (by kernel_rfl) ?_
    refine cont_mk ?_
    refine RegI.pure 1 [2] [(2, .int .i64 4)] (by kernel_rfl) ?_
    refine RegI.done (by kernel_rfl) ?_
    refine RunsI.ret (.int .i64 4) (by kernel_rfl) (by kernel_rfl) ?_
    refine cont_mk ?_
    refine RegI.pure 2 [0, 1, 2, 3, 4, 10, 11, 12, 13, 14] [(0, .slice none 0 0), (1, .int .u64 t7), (2, .int .i64 16), (3, .bool (decide (p0 < 0))), (4, .bool false), (10, .slice none 0 0), (11, .string (⟨#[]⟩ : ByteArray)), (12, .pointer (some ⟨b2, 0, none⟩)), (13, .int .i64 65), (14, .int .u64 4)] (by kernel_rfl) ?_
    refine RegI.done (by kernel_rfl) ?_
    refine RunsI.go 1 [.c 25, .c 26, .c 68] (by kernel_rfl) ?_
    refine RunsI.region (by kernel_rfl) ?_
    refine RegI.pure 3 [0, 1, 2, 3, 4, 10, 11, 12, 13, 14, 15] [(0, .slice none 0 0), (1, .int .u64 t7), (2, .int .i64 16), (3, .bool (decide (p0 < 0))), (4, .bool false), (10, .slice none 0 0), (11, .string (⟨#[]⟩ : ByteArray)), (12, .pointer (some ⟨b2, 0, none⟩)), (13, .int .i64 65), (14, .int .u64 4), (15, .int .u64 16)] (by kernel_rfl) ?_
    refine RegI.done (by kernel_rfl) ?_
    refine RunsI.go 1 [.c 27, .c 28, .c 68] (by kernel_rfl) ?_
    refine RunsI.region (by kernel_rfl) ?_
    refine RegI.pure 4 [0, 1, 3, 4, 10, 11, 12, 13, 14, 15, 16] [(0, .slice none 0 0), (1, .int .u64 t7), (3, .bool (decide (p0 < 0))), (4, .bool false), (10, .slice none 0 0), (11, .string (⟨#[]⟩ : ByteArray)), (12, .pointer (some ⟨b2, 0, none⟩)), (13, .int .i64 65), (14, .int .u64 4), (15, .int .u64 16), (16, .int .u64 15)] (by kernel_rfl) ?_
    refine RegI.done (by kernel_rfl) ?_
    refine RunsI.go 3 [.c 31, .lp 31, .blk 0, .c 43, .c 68] (by kernel_rfl) ?_
    obtain ⟨x27, hx28, h⟩ := of_bind h
    refine RunsI.only [0, 1, 3, 4, 10, 11, 12, 13, 14, 15, 16] [(0, .slice none 0 0), (1, .int .u64 t7), (3, .bool (decide (p0 < 0))), (4, .bool false), (10, .slice none 0 0), (11, .string (⟨#[]⟩ : ByteArray)), (12, .pointer (some ⟨b2, 0, none⟩)), (13, .int .i64 65), (14, .int .u64 4), (15, .int .u64 16), (16, .int .u64 15)] (by kernel_rfl) (by kernel_rfl) ?_
    refine text_Hex_58.l0_ok K M0 w0 p0 p1 b2 _ x27 ?_ K t7 (List.replicate 65 0) 65 w9 hx28 (h8.pick [0, 1, 2, 3] (by decide))
    · intro t29 t30 t31 w33 hq78 h32
      (try rw [hq78] at h)
      dsimp only at h
      refine RunsI.go 1 [.c 44, .c 45, .c 68] (by kernel_rfl) ?_
      refine RunsI.region (by kernel_rfl) ?_
      refine RegI.pure 3 [0, 1, 3, 4, 10, 11, 12, 13] [(0, .slice none 0 0), (1, .int .u64 t29), (3, .bool (decide (p0 < 0))), (4, .bool false), (10, .slice none 0 0), (11, .string (⟨#[]⟩ : ByteArray)), (12, .pointer (some ⟨b2, 0, none⟩)), (13, .int .i64 (IntKind.wrap .i64 (t31 - 1)))] (by kernel_rfl) ?_
      refine RegI.done (by kernel_rfl) ?_
      refine RunsI.region (by kernel_rfl) ?_
      refine RegI.pure 2 [0, 3, 4, 10, 11, 12, 13, 60, 61] [(0, .slice none 0 0), (3, .bool (decide (p0 < 0))), (4, .bool false), (10, .slice none 0 0), (11, .string (⟨#[]⟩ : ByteArray)), (12, .pointer (some ⟨b2, 0, none⟩)), (13, .int .i64 (IntKind.wrap .i64 (t31 - 1))), (60, .int .i64 (IntKind.wrap .i64 (t31 - 1))), (61, .int .u64 t29)] (by kernel_rfl) ?_
      obtain ⟨hc34, h⟩ := of_cond0 h
      refine RegI.op (by kernel_rfl) (OpE.run 62 (by kernel_rfl) (run_strIdx (T0 := 9) (s := (⟨#[48, 49, 50, 51, 52, 53, 54, 55, 56, 57, 97, 98, 99, 100, 101, 102, 103, 104, 105, 106, 107, 108, 109, 110, 111, 112, 113, 114, 115, 116, 117, 118, 119, 120, 121, 122]⟩ : ByteArray)) (j := t29) (by kernel_rfl) (by kernel_rfl) hc34) ?_)
      obtain ⟨hc35, h⟩ := of_cond0 h
      refine RegI.op (by kernel_rfl) (OpE.run 63 (by kernel_rfl) (run_idxArr (T := 195) (b := b2) (o := 0) (ix := (IntKind.wrap .i64 (t31 - 1))) (len := 65) (s := 1) (by kernel_rfl) (by kernel_rfl) hc35) ?_)
      obtain ⟨hc36, h⟩ := of_cond0 h
      refine RegI.op (by kernel_rfl) (OpE.storeArr (en := (fun (x : Int) => ([.int .u8 x] : List Value))) 0 5 b2 1 (IntKind.wrap .i64 (t31 - 1)) (.int .u8 (btD (⟨#[48, 49, 50, 51, 52, 53, 54, 55, 56, 57, 97, 98, 99, 100, 101, 102, 103, 104, 105, 106, 107, 108, 109, 110, 111, 112, 113, 114, 115, 116, 117, 118, 119, 120, 121, 122]⟩ : ByteArray) t29)) (xs := t30) (btD (⟨#[48, 49, 50, 51, 52, 53, 54, 55, 56, 57, 97, 98, 99, 100, 101, 102, 103, 104, 105, 106, 107, 108, 109, 110, 111, 112, 113, 114, 115, 116, 117, 118, 119, 120, 121, 122]⟩ : ByteArray) t29) (o := 0 + (Int.toNat (IntKind.wrap .i64 (t31 - 1))) * 1) h32 (by kernel_rfl) (by kernel_rfl) rfl (fun _ => rfl) (by omega) (by kernel_rfl) (by kernel_rfl) hc36 ?_)
      intro w37 h38 hk39
      refine RegI.done (by kernel_rfl) ?_
      refine RunsI.go 2 [.c 70, .c 71, .c 76] (by kernel_rfl) ?_
      refine RunsI.region (by kernel_rfl) ?_
      refine RegI.pure 1 [0, 4, 10, 11, 12, 13, 89] [(0, .slice none 0 0), (4, .bool false), (10, .slice none 0 0), (11, .string (⟨#[]⟩ : ByteArray)), (12, .pointer (some ⟨b2, 0, none⟩)), (13, .int .i64 (IntKind.wrap .i64 (t31 - 1))), (89, .bool (decide (p0 < 0)))] (by kernel_rfl) ?_
      refine RegI.done (by kernel_rfl) ?_
      obtain ⟨j50, hJ51, h⟩ := of_let h
      have hj52 : ∀ (t46 : List Int) (t47 : Int) (w49 : World), j50 (t46, t47) = some r → Holds M0 w0 w49 [box b2 195 (List.flatMap (fun (x : Int) => ([.int .u8 x] : List Value)) t46), gl 3 (tab_3.flatMap en_3), gl 7 (tab_7.flatMap en_7), gl 8 (tab_8.flatMap en_8)] → RunsI F142 [.c 76] [(0, .slice none 0 0), (4, .bool false), (10, .slice none 0 0), (11, .string (⟨#[]⟩ : ByteArray)), (12, .pointer (some ⟨b2, 0, none⟩)), (13, .int .i64 t47)] w49 (cont (fun e' w' => RegI F122 43 [.c 44] 6 e' w' (cont (fun e' w' => RegI F94 3 [.c 4] 3 e' w' (cont (fun e' w' => RegI F58 3 [.c 4] 2 e' w' (text_Hex_58.post M0 w0 r)) 10 [(1, .int .i64 p1)])) 7 [])) 50 []) := by
        intro t46 t47 w49 h h48
        rw [hJ51] at h
        clear hJ51
        dsimp only at h
        refine RunsI.go 2 [.c 78, .c 79, .c 84] (by kernel_rfl) ?_
        refine RunsI.region (by kernel_rfl) ?_
        refine RegI.pure 1 [0, 10, 11, 12, 13, 94] [(0, .slice none 0 0), (10, .slice none 0 0), (11, .string (⟨#[]⟩ : ByteArray)), (12, .pointer (some ⟨b2, 0, none⟩)), (13, .int .i64 t47), (94, .bool false)] (by kernel_rfl) ?_
        refine RegI.done (by kernel_rfl) ?_
        refine RunsI.cond false 83 (by kernel_rfl) ?_
        refine RunsI.go 2 [.c 85, .c 86] (by kernel_rfl) ?_
        refine RunsI.region (by kernel_rfl) ?_
        refine RegI.pure 1 [10, 12, 99] [(10, .slice none 0 0), (12, .pointer (some ⟨b2, 0, none⟩)), (99, .int .i64 t47)] (by kernel_rfl) ?_
        obtain ⟨hc53, h⟩ := of_cond0 h
        refine RegI.op (by kernel_rfl) (OpE.run 100 (by kernel_rfl) (run_cutArr (T := 195) (b := b2) (lo := (some t47)) (hi := none) (len := 65) (sz := 1) (by kernel_rfl) (by kernel_rfl) hc53) ?_)
        obtain ⟨hc54, h⟩ := of_cond0 h
        refine RegI.op (by kernel_rfl) (OpE.run 101 (by kernel_rfl) (run_toStr (s := 22) (d := 9) (v := (slicedAt ⟨b2, 0, none⟩ (Int.toNat t47) (Int.toNat 65) 65 1)) (by kernel_rfl) (by kernel_rfl) (h48.rdArr 0 rfl t47 65 hc54 hc53)) ?_)
        refine RegI.pure 1 [10, 11] [(10, .slice none 0 0), (11, .string (strOf (cutL t46 t47 65)))] (by kernel_rfl) ?_
        refine RegI.done (by kernel_rfl) ?_
        refine RunsI.ret (.tuple #[.slice none 0 0, .string (strOf (cutL t46 t47 65))]) (by kernel_rfl) (by kernel_rfl) ?_
        refine cont_mk ?_
        refine RegI.pure 5 [9] [(9, .string (strOf (cutL t46 t47 65)))] (by kernel_rfl) ?_
        refine RegI.done (by kernel_rfl) ?_
        refine RunsI.go 1 [.c 45, .c 46] (by kernel_rfl) ?_
        refine RunsI.region (by kernel_rfl) ?_
        refine RegI.pure 2 [4] [(4, .string (strOf (cutL t46 t47 65)))] (by kernel_rfl) ?_
        refine RegI.done (by kernel_rfl) ?_
        refine RunsI.ret (.string (strOf (cutL t46 t47 65))) (by kernel_rfl) (by kernel_rfl) ?_
        refine cont_mk ?_
        refine RegI.pure 1 [4] [(4, .string (strOf (cutL t46 t47 65)))] (by kernel_rfl) ?_
        refine RegI.done (by kernel_rfl) ?_
        refine RunsI.ret (.string (strOf (cutL t46 t47 65))) (by kernel_rfl) (by kernel_rfl) ?_
        refine cont_mk ?_
        obtain ⟨⟨t59, t60⟩, hg58, h⟩ := of_bind h
        dsimp only at h
        refine RegI.op (by kernel_rfl) (OpE.call 11 (by kernel_rfl) 93 #[.string (strOf (cutL t46 t47 65)), .string (⟨#[45]⟩ : ByteArray)] (by kernel_rfl) ((strings_CutPrefix_93_ok K _ w49  (strOf (cutL t46 t47 65)) (⟨#[45]⟩ : ByteArray) h48.old' hg58).mono ?_))
        rintro _ w55 ⟨rfl, hb56⟩
        refine ⟨_, rfl, ?_⟩
        have h57 := h48.call hb56
        refine RegI.pure 5 [1, 5, 6] [(1, .int .i64 p1), (5, .string t59), (6, .bool t60)] (by kernel_rfl) ?_
        refine RegI.done (by kernel_rfl) ?_
        refine RunsI.go 2 [.c 6, .c 7, .c 12] (by kernel_rfl) ?_
        refine RunsI.region (by kernel_rfl) ?_
        refine RegI.pure 7 [5, 6, 7] [(5, .string t59), (6, .bool t60), (7, .int .i64 (IntKind.wrap .i64 ((if (if 8 < p1 then 8 else p1) > 0 then (if 8 < p1 then 8 else p1) else 0) - (t59.size : Int))))] (by kernel_rfl) ?_
        refine RegI.done (by kernel_rfl) ?_
        refine RunsI.go 1 [.c 8, .c 9, .c 12] (by kernel_rfl) ?_
        refine RunsI.region (by kernel_rfl) ?_
        refine RegI.pure 2 [5, 6, 7, 21] [(5, .string t59), (6, .bool t60), (7, .int .i64 (IntKind.wrap .i64 ((if (if 8 < p1 then 8 else p1) > 0 then (if 8 < p1 then 8 else p1) else 0) - (t59.size : Int)))), (21, .bool (decide ((IntKind.wrap .i64 ((if (if 8 < p1 then 8 else p1) > 0 then (if 8 < p1 then 8 else p1) else 0) - (t59.size : Int))) > 0)))] (by kernel_rfl) ?_
        refine RegI.done (by kernel_rfl) ?_
        obtain ⟨j71, hJ72, h⟩ := of_let h
        have hj73 : ∀ (t68 : ByteArray) (w70 : World), j71 t68 = some r → Holds M0 w0 w70 [gl 3 (tab_3.flatMap en_3), gl 7 (tab_7.flatMap en_7), gl 8 (tab_8.flatMap en_8)] → RunsI F58 [.c 12] [(5, .string t68), (6, .bool t60)] w70 (text_Hex_58.post M0 w0 r) := by
          intro t68 w70 h h69
          rw [hJ72] at h
          clear hJ72
          dsimp only at h
          refine RunsI.go 2 [.c 14, .c 15, .c 18] (by kernel_rfl) ?_
          refine RunsI.region (by kernel_rfl) ?_
          refine RegI.pure 1 [5, 26] [(5, .string t68), (26, .bool t60)] (by kernel_rfl) ?_
          refine RegI.done (by kernel_rfl) ?_
          rcases of_cond h with ⟨hc74, h⟩ | ⟨hc74, h⟩
          · skip
            refine RunsI.fix 26 true hc74 (by kernel_rfl) (by kernel_rfl) ?_
            refine RunsI.cond true 16 (by kernel_rfl) ?_
            refine RunsI.region (by kernel_rfl) ?_
            refine RegI.pure 1 [27] [(27, .string t68)] (by kernel_rfl) ?_
            obtain ⟨hc75, h⟩ := of_cond0 h
            refine RegI.op (by kernel_rfl) (OpE.run 28 (by kernel_rfl) (run_cat (a := (⟨#[45]⟩ : ByteArray)) (b := t68) (by kernel_rfl) hc75) ?_)
            refine RegI.pure 1 [5] [(5, .string ((⟨#[45]⟩ : ByteArray) ++ t68))] (by kernel_rfl) ?_
            refine RegI.done (by kernel_rfl) ?_
            refine RunsI.go 1 [.c 19, .c 20] (by kernel_rfl) ?_
            refine RunsI.region (by kernel_rfl) ?_
            refine RegI.pure 1 [29] [(29, .string ((⟨#[45]⟩ : ByteArray) ++ t68))] (by kernel_rfl) ?_
            obtain ⟨hc76, h⟩ := of_cond0 h
            refine RegI.op (by kernel_rfl) (OpE.run 30 (by kernel_rfl) (run_cat (a := ((⟨#[45]⟩ : ByteArray) ++ t68)) (b := (⟨#[104]⟩ : ByteArray)) (by kernel_rfl) hc76) ?_)
            refine RegI.pure 1 [4] [(4, .string (((⟨#[45]⟩ : ByteArray) ++ t68) ++ (⟨#[104]⟩ : ByteArray)))] (by kernel_rfl) ?_
            refine RegI.done (by kernel_rfl) ?_
            refine RunsI.ret (.string (((⟨#[45]⟩ : ByteArray) ++ t68) ++ (⟨#[104]⟩ : ByteArray))) (by kernel_rfl) (by kernel_rfl) ?_
            obtain rfl := Option.some.inj h
            exact ⟨rfl, h69.below⟩
          · skip
            refine RunsI.fix 26 false hc74 (by kernel_rfl) (by kernel_rfl) ?_
            refine RunsI.cond false 17 (by kernel_rfl) ?_
            refine RunsI.go 1 [.c 18] (by kernel_rfl) ?_
            refine RunsI.go 1 [.c 19, .c 20] (by kernel_rfl) ?_
            refine RunsI.region (by kernel_rfl) ?_
            refine RegI.pure 1 [29] [(29, .string t68)] (by kernel_rfl) ?_
            obtain ⟨hc77, h⟩ := of_cond0 h
            refine RegI.op (by kernel_rfl) (OpE.run 30 (by kernel_rfl) (run_cat (a := t68) (b := (⟨#[104]⟩ : ByteArray)) (by kernel_rfl) hc77) ?_)
            refine RegI.pure 1 [4] [(4, .string (t68 ++ (⟨#[104]⟩ : ByteArray)))] (by kernel_rfl) ?_
            refine RegI.done (by kernel_rfl) ?_
            refine RunsI.ret (.string (t68 ++ (⟨#[104]⟩ : ByteArray))) (by kernel_rfl) (by kernel_rfl) ?_
            obtain rfl := Option.some.inj h
            exact ⟨rfl, h69.below⟩
        clear hJ72
        rcases of_cond h with ⟨hc61, h⟩ | ⟨hc61, h⟩
        · skip
          refine RunsI.fix 21 true hc61 (by kernel_rfl) (by kernel_rfl) ?_
          refine RunsI.cond true 10 (by kernel_rfl) ?_
          refine RunsI.region (by kernel_rfl) ?_
          refine RegI.pure 1 [5, 6, 22] [(5, .string t59), (6, .bool t60), (22, .int .i64 (IntKind.wrap .i64 ((if (if 8 < p1 then 8 else p1) > 0 then (if 8 < p1 then 8 else p1) else 0) - (t59.size : Int))))] (by kernel_rfl) ?_
          obtain ⟨t66, hg65, h⟩ := of_bind h
          refine RegI.op (by kernel_rfl) (OpE.call 23 (by kernel_rfl) 95 #[.string (⟨#[48]⟩ : ByteArray), .int .i64 (IntKind.wrap .i64 ((if (if 8 < p1 then 8 else p1) > 0 then (if 8 < p1 then 8 else p1) else 0) - (t59.size : Int)))] (by kernel_rfl) ((strings_Repeat_95_ok K _ w55  (⟨#[48]⟩ : ByteArray) (IntKind.wrap .i64 ((if (if 8 < p1 then 8 else p1) > 0 then (if 8 < p1 then 8 else p1) else 0) - (t59.size : Int))) h57.old' hg65).mono ?_))
          rintro _ w62 ⟨rfl, hb63⟩
          refine ⟨_, rfl, ?_⟩
          have h64 := h57.call hb63
          refine RegI.pure 1 [6, 23, 24] [(6, .bool t60), (23, .string t66), (24, .string t59)] (by kernel_rfl) ?_
          obtain ⟨hc67, h⟩ := of_cond0 h
          refine RegI.op (by kernel_rfl) (OpE.run 25 (by kernel_rfl) (run_cat (a := t66) (b := t59) (by kernel_rfl) hc67) ?_)
          refine RegI.pure 1 [5, 6] [(5, .string (t66 ++ t59)), (6, .bool t60)] (by kernel_rfl) ?_
          refine RegI.done (by kernel_rfl) ?_
          refine RunsI.only [5, 6] [(5, .string (t66 ++ t59)), (6, .bool t60)] (by kernel_rfl) (by kernel_rfl) ?_
          exact hj73 (t66 ++ t59) w62 h (h64.pick [1, 2, 3] (by decide))
        · skip
          refine RunsI.fix 21 false hc61 (by kernel_rfl) (by kernel_rfl) ?_
          refine RunsI.cond false 11 (by kernel_rfl) ?_
          refine RunsI.go 1 [.c 12] (by kernel_rfl) ?_
          refine RunsI.only [5, 6] [(5, .string t59), (6, .bool t60)] (by kernel_rfl) (by kernel_rfl) ?_
          exact hj73 t59 w55 h (h57.pick [1, 2, 3] (by decide))
      clear hJ51
      rcases of_cond h with ⟨hc40, h⟩ | ⟨hc40, h⟩
      · skip
        refine RunsI.fix 89 true hc40 (by kernel_rfl) (by kernel_rfl) ?_
        refine RunsI.cond true 72 (by kernel_rfl) ?_
        refine RunsI.go 1 [.c 73, .c 74, .c 76] (by kernel_rfl) ?_
        refine RunsI.region (by kernel_rfl) ?_
        refine RegI.pure 3 [0, 4, 10, 11, 12, 13] [(0, .slice none 0 0), (4, .bool false), (10, .slice none 0 0), (11, .string (⟨#[]⟩ : ByteArray)), (12, .pointer (some ⟨b2, 0, none⟩)), (13, .int .i64 (IntKind.wrap .i64 ((IntKind.wrap .i64 (t31 - 1)) - 1)))] (by kernel_rfl) ?_
        refine RegI.done (by kernel_rfl) ?_
        refine RunsI.region (by kernel_rfl) ?_
        refine RegI.pure 1 [0, 4, 10, 11, 12, 13, 92] [(0, .slice none 0 0), (4, .bool false), (10, .slice none 0 0), (11, .string (⟨#[]⟩ : ByteArray)), (12, .pointer (some ⟨b2, 0, none⟩)), (13, .int .i64 (IntKind.wrap .i64 ((IntKind.wrap .i64 (t31 - 1)) - 1))), (92, .int .i64 (IntKind.wrap .i64 ((IntKind.wrap .i64 (t31 - 1)) - 1)))] (by kernel_rfl) ?_
        obtain ⟨hc41, h⟩ := of_cond0 h
        refine RegI.op (by kernel_rfl) (OpE.run 93 (by kernel_rfl) (run_idxArr (T := 195) (b := b2) (o := 0) (ix := (IntKind.wrap .i64 ((IntKind.wrap .i64 (t31 - 1)) - 1))) (len := 65) (s := 1) (by kernel_rfl) (by kernel_rfl) hc41) ?_)
        obtain ⟨hc42, h⟩ := of_cond0 h
        refine RegI.op (by kernel_rfl) (OpE.storeArr (en := (fun (x : Int) => ([.int .u8 x] : List Value))) 0 5 b2 1 (IntKind.wrap .i64 ((IntKind.wrap .i64 (t31 - 1)) - 1)) (.int .u8 45) (xs := (stD t30 (IntKind.wrap .i64 (t31 - 1)) (btD (⟨#[48, 49, 50, 51, 52, 53, 54, 55, 56, 57, 97, 98, 99, 100, 101, 102, 103, 104, 105, 106, 107, 108, 109, 110, 111, 112, 113, 114, 115, 116, 117, 118, 119, 120, 121, 122]⟩ : ByteArray) t29))) 45 (o := 0 + (Int.toNat (IntKind.wrap .i64 ((IntKind.wrap .i64 (t31 - 1)) - 1))) * 1) h38 (by kernel_rfl) (by kernel_rfl) rfl (fun _ => rfl) (by omega) (by kernel_rfl) (by kernel_rfl) hc42 ?_)
        intro w43 h44 hk45
        refine RegI.done (by kernel_rfl) ?_
        refine RunsI.only [0, 4, 10, 11, 12, 13] [(0, .slice none 0 0), (4, .bool false), (10, .slice none 0 0), (11, .string (⟨#[]⟩ : ByteArray)), (12, .pointer (some ⟨b2, 0, none⟩)), (13, .int .i64 (IntKind.wrap .i64 ((IntKind.wrap .i64 (t31 - 1)) - 1)))] (by kernel_rfl) (by kernel_rfl) ?_
        exact hj52 (stD (stD t30 (IntKind.wrap .i64 (t31 - 1)) (btD (⟨#[48, 49, 50, 51, 52, 53, 54, 55, 56, 57, 97, 98, 99, 100, 101, 102, 103, 104, 105, 106, 107, 108, 109, 110, 111, 112, 113, 114, 115, 116, 117, 118, 119, 120, 121, 122]⟩ : ByteArray) t29)) (IntKind.wrap .i64 ((IntKind.wrap .i64 (t31 - 1)) - 1)) 45) (IntKind.wrap .i64 ((IntKind.wrap .i64 (t31 - 1)) - 1)) w43 h (h44.pick [0, 1, 2, 3] (by decide))
      · skip
        refine RunsI.fix 89 false hc40 (by kernel_rfl) (by kernel_rfl) ?_
        refine RunsI.cond false 75 (by kernel_rfl) ?_
        refine RunsI.go 1 [.c 76] (by kernel_rfl) ?_
        refine RunsI.only [0, 4, 10, 11, 12, 13] [(0, .slice none 0 0), (4, .bool false), (10, .slice none 0 0), (11, .string (⟨#[]⟩ : ByteArray)), (12, .pointer (some ⟨b2, 0, none⟩)), (13, .int .i64 (IntKind.wrap .i64 (t31 - 1)))] (by kernel_rfl) (by kernel_rfl) ?_
        exact hj52 (stD t30 (IntKind.wrap .i64 (t31 - 1)) (btD (⟨#[48, 49, 50, 51, 52, 53, 54, 55, 56, 57, 97, 98, 99, 100, 101, 102, 103, 104, 105, 106, 107, 108, 109, 110, 111, 112, 113, 114, 115, 116, 117, 118, 119, 120, 121, 122]⟩ : ByteArray) t29)) (IntKind.wrap .i64 (t31 - 1)) w37 h (h38.pick [0, 1, 2, 3] (by decide))
  clear hJ11
  rcases of_cond h with ⟨hc6, h⟩ | ⟨hc6, h⟩
  · skip
    refine RunsI.fix 30 true hc6 (by kernel_rfl) (by kernel_rfl) ?_
    refine RunsI.cond true 16 (by kernel_rfl) ?_
    refine RunsI.region (by kernel_rfl) ?_
    refine RegI.pure 3 [0, 1, 2, 3, 4, 10, 11, 12, 13] [(0, .slice none 0 0), (1, .int .u64 (IntKind.wrap .u64 (0 - (IntKind.wrap .u64 p0)))), (2, .int .i64 16), (3, .bool (decide (p0 < 0))), (4, .bool false), (10, .slice none 0 0), (11, .string (⟨#[]⟩ : ByteArray)), (12, .pointer (some ⟨b2, 0, none⟩)), (13, .int .i64 65)] (by kernel_rfl) ?_
    refine RegI.done (by kernel_rfl) ?_
    refine RunsI.only [0, 1, 2, 3, 4, 10, 11, 12, 13] [(0, .slice none 0 0), (1, .int .u64 (IntKind.wrap .u64 (0 - (IntKind.wrap .u64 p0)))), (2, .int .i64 16), (3, .bool (decide (p0 < 0))), (4, .bool false), (10, .slice none 0 0), (11, .string (⟨#[]⟩ : ByteArray)), (12, .pointer (some ⟨b2, 0, none⟩)), (13, .int .i64 65)] (by kernel_rfl) (by kernel_rfl) ?_
    exact hj12 (IntKind.wrap .u64 (0 - (IntKind.wrap .u64 p0))) w1 h (h3.pick [3, 0, 1, 2] (by decide))
  · skip
    refine RunsI.fix 30 false hc6 (by kernel_rfl) (by kernel_rfl) ?_
    refine RunsI.cond false 17 (by kernel_rfl) ?_
    refine RunsI.go 1 [.c 18] (by kernel_rfl) ?_
    refine RunsI.only [0, 1, 2, 3, 4, 10, 11, 12, 13] [(0, .slice none 0 0), (1, .int .u64 (IntKind.wrap .u64 p0)), (2, .int .i64 16), (3, .bool (decide (p0 < 0))), (4, .bool false), (10, .slice none 0 0), (11, .string (⟨#[]⟩ : ByteArray)), (12, .pointer (some ⟨b2, 0, none⟩)), (13, .int .i64 65)] (by kernel_rfl) (by kernel_rfl) ?_
    exact hj12 (IntKind.wrap .u64 p0) w1 h (h3.pick [3, 0, 1, 2] (by decide))
end

/-! ### charabanc/history.Line (function 26) -/
section
def history_Line_26.post (M0 : Nat → Prop) (w0 : World) (r : ByteArray) : Ending → World → Prop := fun e w => e = .returned (.string r) ∧ Below w0.heap.size w0 w
def history_Line_26.f (K : Nat) (p0_0 : Int) (p0_1 : Int) (p0_2 : Int) (p0_3 : Int) (p0_4 : Int) (p0_5 : Int) : Option ByteArray := (history_known_49.f K p0_1).bind fun t10 => Let (fun (t13 : ByteArray) => (strconv_Itoa_56.f K p0_0).bind fun t24 => cond (mayCat t24.size (⟨#[32]⟩ : ByteArray).size) (cond (mayCat (t24 ++ (⟨#[32]⟩ : ByteArray)).size t13.size) (cond (mayCat ((t24 ++ (⟨#[32]⟩ : ByteArray)) ++ t13).size (⟨#[32]⟩ : ByteArray).size) ((trace_Kind_57.f K p0_2).bind fun t29 => cond (mayCat (((t24 ++ (⟨#[32]⟩ : ByteArray)) ++ t13) ++ (⟨#[32]⟩ : ByteArray)).size t29.size) (cond (mayCat ((((t24 ++ (⟨#[32]⟩ : ByteArray)) ++ t13) ++ (⟨#[32]⟩ : ByteArray)) ++ t29).size (⟨#[32]⟩ : ByteArray).size) ((text_Hex_58.f K (IntKind.wrap .i64 p0_3) 4).bind fun t33 => cond (mayCat (((((t24 ++ (⟨#[32]⟩ : ByteArray)) ++ t13) ++ (⟨#[32]⟩ : ByteArray)) ++ t29) ++ (⟨#[32]⟩ : ByteArray)).size t33.size) (cond (mayCat ((((((t24 ++ (⟨#[32]⟩ : ByteArray)) ++ t13) ++ (⟨#[32]⟩ : ByteArray)) ++ t29) ++ (⟨#[32]⟩ : ByteArray)) ++ t33).size (⟨#[32]⟩ : ByteArray).size) ((text_Hex_58.f K (IntKind.wrap .i64 p0_5) 2).bind fun t37 => cond (mayCat (((((((t24 ++ (⟨#[32]⟩ : ByteArray)) ++ t13) ++ (⟨#[32]⟩ : ByteArray)) ++ t29) ++ (⟨#[32]⟩ : ByteArray)) ++ t33) ++ (⟨#[32]⟩ : ByteArray)).size t37.size) (some ((((((((t24 ++ (⟨#[32]⟩ : ByteArray)) ++ t13) ++ (⟨#[32]⟩ : ByteArray)) ++ t29) ++ (⟨#[32]⟩ : ByteArray)) ++ t33) ++ (⟨#[32]⟩ : ByteArray)) ++ t37)) none) none) none) none) none) none) none) none) (fun j16 => cond t10 (cond (inR p0_1 4) (j16 (rdD tab_0 p0_1)) none) (j16 (rdD tab_0 0)))
set_option maxRecDepth 100000 in
theorem history_Line_26_ok (K : Nat) (M0 : Nat → Prop) (w0 : World) (p0_0 : Int) (p0_1 : Int) (p0_2 : Int) (p0_3 : Int) (p0_4 : Int) (p0_5 : Int) (ho : ∀ b, M0 b → b < w0.heap.size) (hG0 : (gl 0 (tab_0.flatMap en_0)).ok w0 M0) (hG1 : (gl 1 (tab_1.flatMap en_1)).ok w0 M0) (hG3 : (gl 3 (tab_3.flatMap en_3)).ok w0 M0) (hG7 : (gl 7 (tab_7.flatMap en_7)).ok w0 M0) (hG8 : (gl 8 (tab_8.flatMap en_8)).ok w0 M0) {r : ByteArray} (h : history_Line_26.f K p0_0 p0_1 p0_2 p0_3 p0_4 p0_5 = some r) :
    Calls Tryd.prog 26 #[.agg #[.int .i64 p0_0, .int .i64 p0_1, .int .i64 p0_2, .int .u16 p0_3, .int .i64 p0_4, .int .u8 p0_5]] w0 (history_Line_26.post M0 w0 r) := by
  unfold history_Line_26.f at h
  have h0 : Holds M0 w0 w0 [] := Holds.start ho
  have h0g0 := h0.add (gl 0 (tab_0.flatMap en_0)) rfl ⟨hG0.1, fun hm => hG0.2.1 (hm.elim id (fun hm => absurd hm (by simp [mines, sl, gl]))), hG0.2.2⟩
  have h0g1 := h0g0.add (gl 1 (tab_1.flatMap en_1)) rfl ⟨hG1.1, fun hm => hG1.2.1 (hm.elim id (fun hm => absurd hm (by simp [mines, sl, gl]))), hG1.2.2⟩
  have h0g3 := h0g1.add (gl 3 (tab_3.flatMap en_3)) rfl ⟨hG3.1, fun hm => hG3.2.1 (hm.elim id (fun hm => absurd hm (by simp [mines, sl, gl]))), hG3.2.2⟩
  have h0g7 := h0g3.add (gl 7 (tab_7.flatMap en_7)) rfl ⟨hG7.1, fun hm => hG7.2.1 (hm.elim id (fun hm => absurd hm (by simp [mines, sl, gl]))), hG7.2.2⟩
  have h0g8 := h0g7.add (gl 8 (tab_8.flatMap en_8)) rfl ⟨hG8.1, fun hm => hG8.2.1 (hm.elim id (fun hm => absurd hm (by simp [mines, sl, gl]))), hG8.2.2⟩
  have h0 : Holds M0 w0 w0 [gl 0 (tab_0.flatMap en_0), gl 1 (tab_1.flatMap en_1), gl 3 (tab_3.flatMap en_3), gl 7 (tab_7.flatMap en_7), gl 8 (tab_8.flatMap en_8)] := h0g8
  refine calls_of F26 rfl [.agg #[.int .i64 p0_0, .int .i64 p0_1, .int .i64 p0_2, .int .u16 p0_3, .int .i64 p0_4, .int .u8 p0_5]] (by kernel_rfl) ?_
  refine RunsI.go 1 [.c 1, .c 2] (by kernel_rfl) ?_
  refine RunsI.region (by kernel_rfl) ?_
  refine RegI.op (by kernel_rfl) (OpE.box 1 54 [.int .i64 p0_0, .int .i64 p0_1, .int .i64 p0_2, .int .u16 p0_3, .int .i64 p0_4, .int .u8 p0_5] h0 (by kernel_rfl) (by kernel_rfl) ?_)
  intro w1 b2 h3 hb4 hn5
  refine RegI.pure 1 [1] [(1, .pointer (some ⟨b2, 0, none⟩))] (by kernel_rfl) ?_
  refine RegI.done (by kernel_rfl) ?_
  refine RunsI.go 1 [.c 3, .c 4] (by kernel_rfl) ?_
  refine RunsI.region (by kernel_rfl) ?_
  refine RegI.op (by kernel_rfl) (OpE.run 4 (by kernel_rfl) (run_idxArr (T := 98) (b := 0) (o := 0) (ix := 0) (len := 4) (s := 1) (by kernel_rfl) (by kernel_rfl) (by kernel_rfl)) ?_)
  refine RegI.op (by kernel_rfl) (OpE.loadTab 5 0 9 en_0 tab_0 0 1 0 (.string (rdD tab_0 0)) (o := 0 + (Int.toNat 0) * 1 + 0) h3 (by kernel_rfl) rfl (fun _ => rfl) (by kernel_rfl) (by omega) (by kernel_rfl) (fun _ => by kernel_rfl) ?_)
  refine RegI.pure 1 [1, 3] [(1, .pointer (some ⟨b2, 0, none⟩)), (3, .string (rdD tab_0 0))] (by kernel_rfl) ?_
  refine RegI.done (by kernel_rfl) ?_
  refine RunsI.go 2 [.c 6, .c 7, .c 10] (by kernel_rfl) ?_
  refine RunsI.region (by kernel_rfl) ?_
  refine RegI.pure 1 [1, 3, 6] [(1, .pointer (some ⟨b2, 0, none⟩)), (3, .string (rdD tab_0 0)), (6, .pointer (some ⟨b2, 1, none⟩))] (by kernel_rfl) ?_
  refine RegI.op (by kernel_rfl) (OpE.loadBox 7 5 3 b2 1 (.int .i64 p0_1) h3 (by kernel_rfl) (by kernel_rfl) rfl (by kernel_rfl) ?_)
  obtain ⟨t10, hg9, h⟩ := of_bind h
  refine RegI.op (by kernel_rfl) (OpE.call 8 (by kernel_rfl) 49 #[.int .i64 p0_1] (by kernel_rfl) ((history_known_49_ok K _ w1  p0_1 h3.old' hg9).mono ?_))
  rintro _ w6 ⟨rfl, hb7⟩
  refine ⟨_, rfl, ?_⟩
  have h8 := h3.call hb7
  refine RegI.done (by kernel_rfl) ?_
  obtain ⟨j16, hJ17, h⟩ := of_let h
  have hj18 : ∀ (t13 : ByteArray) (w15 : World), j16 t13 = some r → Holds M0 w0 w15 [box b2 54 [.int .i64 p0_0, .int .i64 p0_1, .int .i64 p0_2, .int .u16 p0_3, .int .i64 p0_4, .int .u8 p0_5], gl 0 (tab_0.flatMap en_0), gl 1 (tab_1.flatMap en_1), gl 3 (tab_3.flatMap en_3), gl 7 (tab_7.flatMap en_7), gl 8 (tab_8.flatMap en_8)] → RunsI F26 [.c 10] [(1, .pointer (some ⟨b2, 0, none⟩)), (3, .string t13)] w15 (history_Line_26.post M0 w0 r) := by
    intro t13 w15 h h14
    rw [hJ17] at h
    clear hJ17
    dsimp only at h
    refine RunsI.go 1 [.c 11, .c 12] (by kernel_rfl) ?_
    refine RunsI.any 24 (by kernel_rfl) (by kernel_rfl) (by kernel_rfl) (Kp ([] : List Nat) (World.drew w15)) ?_
    have h20 := h14.drew
    generalize World.drew w15 = w19 at h20 ⊢
    have hS21 := Kp.refl ([] : List Nat) w19
    refine AnyE.pure 0 13 (.pointer (some ⟨b2, 0, none⟩)) (by kernel_rfl) hS21 (fun _ => by kernel_rfl) ?_
    refine AnyE.loadBox 1 14 0 3 b2 0 (.int .i64 p0_0) [] h20 rfl (by kernel_rfl) hS21 rfl rfl (by kernel_rfl) (by kernel_rfl) ?_
    obtain ⟨t24, hg23, h⟩ := of_bind h
    refine AnyE.call 2 15 (.string t24) 56 #[.int .i64 p0_0] (by kernel_rfl) hS21 (fun _ => by kernel_rfl) (fun w hk => strconv_Itoa_56_ok K (fun _ => False) w p0_0 (fun _ hf => hf.elim) ⟨(h20.atI [] rfl hk 3 rfl rfl).1, fun hf => hf.elim, (h20.atI [] rfl hk 3 rfl rfl).2.2⟩ hg23) ?_
    obtain ⟨hc25, h⟩ := of_cond0 h
    refine AnyE.run 3 16 (.string (t24 ++ (⟨#[32]⟩ : ByteArray))) (by kernel_rfl) hS21 (fun _ hk => run_cat (a := t24) (b := (⟨#[32]⟩ : ByteArray)) (by kernel_rfl) hc25) ?_
    refine AnyE.pure 4 17 (.string t13) (by kernel_rfl) hS21 (fun _ => by kernel_rfl) ?_
    obtain ⟨hc26, h⟩ := of_cond0 h
    refine AnyE.run 5 18 (.string ((t24 ++ (⟨#[32]⟩ : ByteArray)) ++ t13)) (by kernel_rfl) hS21 (fun _ hk => run_cat (a := (t24 ++ (⟨#[32]⟩ : ByteArray))) (b := t13) (by kernel_rfl) hc26) ?_
    obtain ⟨hc27, h⟩ := of_cond0 h
    refine AnyE.run 6 19 (.string (((t24 ++ (⟨#[32]⟩ : ByteArray)) ++ t13) ++ (⟨#[32]⟩ : ByteArray))) (by kernel_rfl) hS21 (fun _ hk => run_cat (a := ((t24 ++ (⟨#[32]⟩ : ByteArray)) ++ t13)) (b := (⟨#[32]⟩ : ByteArray)) (by kernel_rfl) hc27) ?_
    refine AnyE.pure 7 20 (.pointer (some ⟨b2, 2, none⟩)) (by kernel_rfl) hS21 (fun _ => by kernel_rfl) ?_
    refine AnyE.loadBox 8 21 0 3 b2 2 (.int .i64 p0_2) [] h20 rfl (by kernel_rfl) hS21 rfl rfl (by kernel_rfl) (by kernel_rfl) ?_
    obtain ⟨t29, hg28, h⟩ := of_bind h
    refine AnyE.call 9 22 (.string t29) 57 #[.int .i64 p0_2] (by kernel_rfl) hS21 (fun _ => by kernel_rfl) (fun w hk => trace_Kind_57_ok K (fun _ => False) w p0_2 (fun _ hf => hf.elim) ⟨(h20.atI [] rfl hk 2 rfl rfl).1, fun hf => hf.elim, (h20.atI [] rfl hk 2 rfl rfl).2.2⟩ hg28) ?_
    obtain ⟨hc30, h⟩ := of_cond0 h
    refine AnyE.run 10 23 (.string ((((t24 ++ (⟨#[32]⟩ : ByteArray)) ++ t13) ++ (⟨#[32]⟩ : ByteArray)) ++ t29)) (by kernel_rfl) hS21 (fun _ hk => run_cat (a := (((t24 ++ (⟨#[32]⟩ : ByteArray)) ++ t13) ++ (⟨#[32]⟩ : ByteArray))) (b := t29) (by kernel_rfl) hc30) ?_
    obtain ⟨hc31, h⟩ := of_cond0 h
    refine AnyE.run 11 24 (.string (((((t24 ++ (⟨#[32]⟩ : ByteArray)) ++ t13) ++ (⟨#[32]⟩ : ByteArray)) ++ t29) ++ (⟨#[32]⟩ : ByteArray))) (by kernel_rfl) hS21 (fun _ hk => run_cat (a := ((((t24 ++ (⟨#[32]⟩ : ByteArray)) ++ t13) ++ (⟨#[32]⟩ : ByteArray)) ++ t29)) (b := (⟨#[32]⟩ : ByteArray)) (by kernel_rfl) hc31) ?_
    refine AnyE.pure 12 25 (.pointer (some ⟨b2, 3, none⟩)) (by kernel_rfl) hS21 (fun _ => by kernel_rfl) ?_
    refine AnyE.loadBox 13 26 0 52 b2 3 (.int .u16 p0_3) [] h20 rfl (by kernel_rfl) hS21 rfl rfl (by kernel_rfl) (by kernel_rfl) ?_
    refine AnyE.pure 14 27 (.int .i64 (IntKind.wrap .i64 p0_3)) (by kernel_rfl) hS21 (fun _ => by kernel_rfl) ?_
    obtain ⟨t33, hg32, h⟩ := of_bind h
    refine AnyE.call 15 28 (.string t33) 58 #[.int .i64 (IntKind.wrap .i64 p0_3), .int .i64 4] (by kernel_rfl) hS21 (fun _ => by kernel_rfl) (fun w hk => text_Hex_58_ok K (fun _ => False) w (IntKind.wrap .i64 p0_3) 4 (fun _ hf => hf.elim) ⟨(h20.atI [] rfl hk 3 rfl rfl).1, fun hf => hf.elim, (h20.atI [] rfl hk 3 rfl rfl).2.2⟩ ⟨(h20.atI [] rfl hk 4 rfl rfl).1, fun hf => hf.elim, (h20.atI [] rfl hk 4 rfl rfl).2.2⟩ ⟨(h20.atI [] rfl hk 5 rfl rfl).1, fun hf => hf.elim, (h20.atI [] rfl hk 5 rfl rfl).2.2⟩ hg32) ?_
    obtain ⟨hc34, h⟩ := of_cond0 h
    refine AnyE.run 16 29 (.string ((((((t24 ++ (⟨#[32]⟩ : ByteArray)) ++ t13) ++ (⟨#[32]⟩ : ByteArray)) ++ t29) ++ (⟨#[32]⟩ : ByteArray)) ++ t33)) (by kernel_rfl) hS21 (fun _ hk => run_cat (a := (((((t24 ++ (⟨#[32]⟩ : ByteArray)) ++ t13) ++ (⟨#[32]⟩ : ByteArray)) ++ t29) ++ (⟨#[32]⟩ : ByteArray))) (b := t33) (by kernel_rfl) hc34) ?_
    obtain ⟨hc35, h⟩ := of_cond0 h
    refine AnyE.run 17 30 (.string (((((((t24 ++ (⟨#[32]⟩ : ByteArray)) ++ t13) ++ (⟨#[32]⟩ : ByteArray)) ++ t29) ++ (⟨#[32]⟩ : ByteArray)) ++ t33) ++ (⟨#[32]⟩ : ByteArray))) (by kernel_rfl) hS21 (fun _ hk => run_cat (a := ((((((t24 ++ (⟨#[32]⟩ : ByteArray)) ++ t13) ++ (⟨#[32]⟩ : ByteArray)) ++ t29) ++ (⟨#[32]⟩ : ByteArray)) ++ t33)) (b := (⟨#[32]⟩ : ByteArray)) (by kernel_rfl) hc35) ?_
    refine AnyE.pure 18 31 (.pointer (some ⟨b2, 5, none⟩)) (by kernel_rfl) hS21 (fun _ => by kernel_rfl) ?_
    refine AnyE.loadBox 19 32 0 5 b2 5 (.int .u8 p0_5) [] h20 rfl (by kernel_rfl) hS21 rfl rfl (by kernel_rfl) (by kernel_rfl) ?_
    refine AnyE.pure 20 33 (.int .i64 (IntKind.wrap .i64 p0_5)) (by kernel_rfl) hS21 (fun _ => by kernel_rfl) ?_
    obtain ⟨t37, hg36, h⟩ := of_bind h
    refine AnyE.call 21 34 (.string t37) 58 #[.int .i64 (IntKind.wrap .i64 p0_5), .int .i64 2] (by kernel_rfl) hS21 (fun _ => by kernel_rfl) (fun w hk => text_Hex_58_ok K (fun _ => False) w (IntKind.wrap .i64 p0_5) 2 (fun _ hf => hf.elim) ⟨(h20.atI [] rfl hk 3 rfl rfl).1, fun hf => hf.elim, (h20.atI [] rfl hk 3 rfl rfl).2.2⟩ ⟨(h20.atI [] rfl hk 4 rfl rfl).1, fun hf => hf.elim, (h20.atI [] rfl hk 4 rfl rfl).2.2⟩ ⟨(h20.atI [] rfl hk 5 rfl rfl).1, fun hf => hf.elim, (h20.atI [] rfl hk 5 rfl rfl).2.2⟩ hg36) ?_
    obtain ⟨hc38, h⟩ := of_cond0 h
    refine AnyE.run 22 35 (.string ((((((((t24 ++ (⟨#[32]⟩ : ByteArray)) ++ t13) ++ (⟨#[32]⟩ : ByteArray)) ++ t29) ++ (⟨#[32]⟩ : ByteArray)) ++ t33) ++ (⟨#[32]⟩ : ByteArray)) ++ t37)) (by kernel_rfl) hS21 (fun _ hk => run_cat (a := (((((((t24 ++ (⟨#[32]⟩ : ByteArray)) ++ t13) ++ (⟨#[32]⟩ : ByteArray)) ++ t29) ++ (⟨#[32]⟩ : ByteArray)) ++ t33) ++ (⟨#[32]⟩ : ByteArray))) (b := t37) (by kernel_rfl) hc38) ?_
    refine AnyE.pure 23 2 (.string ((((((((t24 ++ (⟨#[32]⟩ : ByteArray)) ++ t13) ++ (⟨#[32]⟩ : ByteArray)) ++ t29) ++ (⟨#[32]⟩ : ByteArray)) ++ t33) ++ (⟨#[32]⟩ : ByteArray)) ++ t37)) (by kernel_rfl) hS21 (fun _ => by kernel_rfl) ?_
    refine AnyE.done (by kernel_rfl) (fun w39 hu40 => ?_)
    have h41 := h20.call hu40
    refine RunsI.only [2] [(2, .string ((((((((t24 ++ (⟨#[32]⟩ : ByteArray)) ++ t13) ++ (⟨#[32]⟩ : ByteArray)) ++ t29) ++ (⟨#[32]⟩ : ByteArray)) ++ t33) ++ (⟨#[32]⟩ : ByteArray)) ++ t37))] (by kernel_rfl) (by kernel_rfl) ?_
    refine RunsI.ret (.string ((((((((t24 ++ (⟨#[32]⟩ : ByteArray)) ++ t13) ++ (⟨#[32]⟩ : ByteArray)) ++ t29) ++ (⟨#[32]⟩ : ByteArray)) ++ t33) ++ (⟨#[32]⟩ : ByteArray)) ++ t37)) (by kernel_rfl) (by kernel_rfl) ?_
    obtain rfl := Option.some.inj h
    exact ⟨rfl, h41.below⟩
  clear hJ17
  rcases of_cond h with ⟨hc11, h⟩ | ⟨hc11, h⟩
  · skip
    refine RunsI.fix 8 true hc11 (by kernel_rfl) (by kernel_rfl) ?_
    refine RunsI.cond true 8 (by kernel_rfl) ?_
    refine RunsI.region (by kernel_rfl) ?_
    refine RegI.pure 1 [1, 9] [(1, .pointer (some ⟨b2, 0, none⟩)), (9, .pointer (some ⟨b2, 1, none⟩))] (by kernel_rfl) ?_
    refine RegI.op (by kernel_rfl) (OpE.loadBox 10 5 3 b2 1 (.int .i64 p0_1) h8 (by kernel_rfl) (by kernel_rfl) rfl (by kernel_rfl) ?_)
    obtain ⟨hc12, h⟩ := of_cond0 h
    refine RegI.op (by kernel_rfl) (OpE.run 11 (by kernel_rfl) (run_idxArr (T := 98) (b := 0) (o := 0) (ix := p0_1) (len := 4) (s := 1) (by kernel_rfl) (by kernel_rfl) hc12) ?_)
    refine RegI.op (by kernel_rfl) (OpE.loadTab 12 0 9 en_0 tab_0 0 1 p0_1 (.string (rdD tab_0 p0_1)) (o := 0 + (Int.toNat p0_1) * 1 + 0) h8 (by kernel_rfl) rfl (fun _ => rfl) (by kernel_rfl) (by omega) hc12 (fun _ => by kernel_rfl) ?_)
    refine RegI.pure 1 [1, 3] [(1, .pointer (some ⟨b2, 0, none⟩)), (3, .string (rdD tab_0 p0_1))] (by kernel_rfl) ?_
    refine RegI.done (by kernel_rfl) ?_
    refine RunsI.only [1, 3] [(1, .pointer (some ⟨b2, 0, none⟩)), (3, .string (rdD tab_0 p0_1))] (by kernel_rfl) (by kernel_rfl) ?_
    exact hj18 (rdD tab_0 p0_1) w6 h (h8.pick [5, 0, 1, 2, 3, 4] (by decide))
  · skip
    refine RunsI.fix 8 false hc11 (by kernel_rfl) (by kernel_rfl) ?_
    refine RunsI.cond false 9 (by kernel_rfl) ?_
    refine RunsI.go 1 [.c 10] (by kernel_rfl) ?_
    refine RunsI.only [1, 3] [(1, .pointer (some ⟨b2, 0, none⟩)), (3, .string (rdD tab_0 0))] (by kernel_rfl) (by kernel_rfl) ?_
    exact hj18 (rdD tab_0 0) w6 h (h8.pick [5, 0, 1, 2, 3, 4] (by decide))
end
end Go.Proofs.YtmebkghfjamffaaDoor.His
