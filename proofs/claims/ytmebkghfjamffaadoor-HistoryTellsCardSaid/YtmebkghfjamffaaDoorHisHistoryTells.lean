/- The statement's function HistoryTells as a plain Lean function; written by wip/eng.py. -/
import Derived.Test.YtmebkghfjamffaaDoorHis4
set_option linter.unusedVariables false
set_option linter.unusedSimpArgs false
set_option maxHeartbeats 4000000
namespace Go.Proofs.YtmebkghfjamffaaDoor.His
open Go.RowKit Go.Eng
noncomputable def B3 : Code := (Tryd.f3.body).getD .skip
noncomputable def F3 : Fun Tryd.prog := ⟨3, Tryd.f3, B3, 40, Tryd.func3, by kernel_rfl, by kernel_rfl, [], none⟩

/-! ### charabanc/charabanclaw29.HistoryTells (function 3) -/
section
def charabanclaw29_HistoryTells_3.post (M0 : Nat → Prop) (w0 : World) (r : Bool) : Ending → World → Prop := fun e w => e = .returned (.bool r) ∧ Below w0.heap.size w0 w
def charabanclaw29_HistoryTells_3.f (K : Nat) (p0_0 : List Int) (p0_1 : Int) (p0_2 : Int) (p0_3 : List (Int × Int)) (p1 : List (Int × Int × Int × Int × Int × Int)) : Option Bool := (charabanclaw29_awake_9.f K).bind fun t10 => cond (!t10) (some false) ((charabanclaw29_few_10.f K p0_0 p0_1 p0_2 p0_3).bind fun t16 => Let (fun (t18 : Bool) => cond t18 (some true) ((charabanclaw29_store_12.f K p0_0 p0_1 p0_2 p0_3).bind fun yt29 => (charabancref29_Behind_11.f K yt29.1 yt29.2.1 yt29.2.2.1 yt29.2.2.2 p1).bind fun yt45 => (history_Legal_13.f K p0_0 p0_1 p0_2 p0_3 p1).bind fun t69 => (charabanclaw29_store_12.f K p0_0 p0_1 p0_2 p0_3).bind fun yt78 => (charabancref29_Legal_14.f K yt78.1 yt78.2.1 yt78.2.2.1 yt78.2.2.2 p1).bind fun t98 => cond (t69 == t98) ((history_Behind_16.f K p0_0 p0_1 p0_2 p0_3 p1).bind fun yt109 => (charabanclaw29_store_12.f K yt109.1 yt109.2.1 yt109.2.2.1 yt109.2.2.2).bind fun yt129 => (charabancref19_Same_15.f K yt129.1 yt129.2.1 yt129.2.2.1 yt129.2.2.2 yt45.1 yt45.2.1 yt45.2.2.1 yt45.2.2.2).bind fun t149 => some t149) (some false))) (fun j21 => cond (!t16) (j21 true) (j21 (decide ((p1.length : Int) > 100)))))
set_option maxRecDepth 100000 in
theorem charabanclaw29_HistoryTells_3_ok (K : Nat) (M0 : Nat → Prop) (w0 : World) (pA0_0 : Option Addr) (pc0_0 : Nat) (pA0_3 : Option Addr) (pc0_3 : Nat) (pA1 : Option Addr) (pc1 : Nat) (p0_0 : List Int) (p0_1 : Int) (p0_2 : Int) (p0_3 : List (Int × Int)) (p1 : List (Int × Int × Int × Int × Int × Int)) (ho : ∀ b, M0 b → b < w0.heap.size) (hs0_0 : Sl (Rp.int .u8) w0 M0 (.slice pA0_0 p0_0.length pc0_0) p0_0) (hs0_3 : Sl (Rp.pair (Rp.int .i64) (Rp.int .u8)) w0 M0 (.slice pA0_3 p0_3.length pc0_3) p0_3) (hs1 : Sl (Rp.pair (Rp.int .i64) (Rp.pair (Rp.int .i64) (Rp.pair (Rp.int .i64) (Rp.pair (Rp.int .u16) (Rp.pair (Rp.int .i64) (Rp.int .u8)))))) w0 M0 (.slice pA1 p1.length pc1) p1) (hG0 : (gl 0 (tab_0.flatMap en_0)).ok w0 M0) (hG1 : (gl 1 (tab_1.flatMap en_1)).ok w0 M0) (hG2 : (gl 2 (tab_2.flatMap en_2)).ok w0 M0) (hG3 : (gl 3 (tab_3.flatMap en_3)).ok w0 M0) (hG7 : (gl 7 (tab_7.flatMap en_7)).ok w0 M0) (hG8 : (gl 8 (tab_8.flatMap en_8)).ok w0 M0) {r : Bool} (h : charabanclaw29_HistoryTells_3.f K p0_0 p0_1 p0_2 p0_3 p1 = some r) :
    Calls Tryd.prog 3 #[.agg #[.slice pA0_0 p0_0.length pc0_0, .int .i64 p0_1, .int .i64 p0_2, .slice pA0_3 p0_3.length pc0_3], .slice pA1 p1.length pc1] w0 (charabanclaw29_HistoryTells_3.post M0 w0 r) := by
  unfold charabanclaw29_HistoryTells_3.f at h
  have h0 : Holds M0 w0 w0 [] := Holds.start ho
  have h00_0 := h0.addSl (Rp.int .u8) (.slice pA0_0 p0_0.length pc0_0) p0_0 (hs0_0.mono (fun _ _ hm => hm.elim id (fun hm => absurd hm (by simp [mines, sl]))))
  have h00_3 := h00_0.addSl (Rp.pair (Rp.int .i64) (Rp.int .u8)) (.slice pA0_3 p0_3.length pc0_3) p0_3 (hs0_3.mono (fun _ _ hm => hm.elim id (fun hm => absurd hm (by simp [mines, sl]))))
  have h01 := h00_3.addSl (Rp.pair (Rp.int .i64) (Rp.pair (Rp.int .i64) (Rp.pair (Rp.int .i64) (Rp.pair (Rp.int .u16) (Rp.pair (Rp.int .i64) (Rp.int .u8)))))) (.slice pA1 p1.length pc1) p1 (hs1.mono (fun _ _ hm => hm.elim id (fun hm => absurd hm (by simp [mines, sl]))))
  have h0g0 := h01.add (gl 0 (tab_0.flatMap en_0)) rfl ⟨hG0.1, fun hm => hG0.2.1 (hm.elim id (fun hm => absurd hm (by simp [mines, sl, gl]))), hG0.2.2⟩
  have h0g1 := h0g0.add (gl 1 (tab_1.flatMap en_1)) rfl ⟨hG1.1, fun hm => hG1.2.1 (hm.elim id (fun hm => absurd hm (by simp [mines, sl, gl]))), hG1.2.2⟩
  have h0g2 := h0g1.add (gl 2 (tab_2.flatMap en_2)) rfl ⟨hG2.1, fun hm => hG2.2.1 (hm.elim id (fun hm => absurd hm (by simp [mines, sl, gl]))), hG2.2.2⟩
  have h0g3 := h0g2.add (gl 3 (tab_3.flatMap en_3)) rfl ⟨hG3.1, fun hm => hG3.2.1 (hm.elim id (fun hm => absurd hm (by simp [mines, sl, gl]))), hG3.2.2⟩
  have h0g7 := h0g3.add (gl 7 (tab_7.flatMap en_7)) rfl ⟨hG7.1, fun hm => hG7.2.1 (hm.elim id (fun hm => absurd hm (by simp [mines, sl, gl]))), hG7.2.2⟩
  have h0g8 := h0g7.add (gl 8 (tab_8.flatMap en_8)) rfl ⟨hG8.1, fun hm => hG8.2.1 (hm.elim id (fun hm => absurd hm (by simp [mines, sl, gl]))), hG8.2.2⟩
  have h0 : Holds M0 w0 w0 [sl (Rp.int .u8) (.slice pA0_0 p0_0.length pc0_0) p0_0, sl (Rp.pair (Rp.int .i64) (Rp.int .u8)) (.slice pA0_3 p0_3.length pc0_3) p0_3, sl (Rp.pair (Rp.int .i64) (Rp.pair (Rp.int .i64) (Rp.pair (Rp.int .i64) (Rp.pair (Rp.int .u16) (Rp.pair (Rp.int .i64) (Rp.int .u8)))))) (.slice pA1 p1.length pc1) p1, gl 0 (tab_0.flatMap en_0), gl 1 (tab_1.flatMap en_1), gl 2 (tab_2.flatMap en_2), gl 3 (tab_3.flatMap en_3), gl 7 (tab_7.flatMap en_7), gl 8 (tab_8.flatMap en_8)] := h0g8
  refine calls_of F3 rfl [.agg #[.slice pA0_0 p0_0.length pc0_0, .int .i64 p0_1, .int .i64 p0_2, .slice pA0_3 p0_3.length pc0_3], .slice pA1 p1.length pc1] (by kernel_rfl) ?_
  refine RunsI.go 1 [.c 1, .c 2] (by kernel_rfl) ?_
  refine RunsI.region (by kernel_rfl) ?_
  refine RegI.op (by kernel_rfl) (OpE.box 2 25 [.slice pA0_0 p0_0.length pc0_0, .int .i64 p0_1, .int .i64 p0_2, .slice pA0_3 p0_3.length pc0_3] h0 (by kernel_rfl) (by kernel_rfl) ?_)
  intro w1 b2 h3 hb4 hn5
  refine RegI.pure 1 [1, 2] [(1, .slice pA1 p1.length pc1), (2, .pointer (some ⟨b2, 0, none⟩))] (by kernel_rfl) ?_
  refine RegI.done (by kernel_rfl) ?_
  refine RunsI.go 1 [.c 3, .c 4] (by kernel_rfl) ?_
  refine RunsI.region (by kernel_rfl) ?_
  obtain ⟨t10, hg9, h⟩ := of_bind h
  refine RegI.op (by kernel_rfl) (OpE.call 8 (by kernel_rfl) 9 #[] (by kernel_rfl) ((charabanclaw29_awake_9_ok K _ w1  h3.old' (h3.get 3 rfl) (h3.get 4 rfl) (h3.get 5 rfl) (h3.get 6 rfl) (h3.get 7 rfl) (h3.get 8 rfl) hg9).mono ?_))
  rintro _ w6 ⟨rfl, hb7⟩
  refine ⟨_, rfl, ?_⟩
  have h8 := h3.call hb7
  refine RegI.pure 1 [1, 2, 5] [(1, .slice pA1 p1.length pc1), (2, .pointer (some ⟨b2, 0, none⟩)), (5, .bool t10)] (by kernel_rfl) ?_
  refine RegI.done (by kernel_rfl) ?_
  refine RunsI.go 2 [.c 6, .c 7, .c 12] (by kernel_rfl) ?_
  refine RunsI.region (by kernel_rfl) ?_
  refine RegI.pure 2 [1, 2, 10] [(1, .slice pA1 p1.length pc1), (2, .pointer (some ⟨b2, 0, none⟩)), (10, .bool (!t10))] (by kernel_rfl) ?_
  refine RegI.done (by kernel_rfl) ?_
  rcases of_cond h with ⟨hc11, h⟩ | ⟨hc11, h⟩
  · skip
    refine RunsI.fix 10 true hc11 (by kernel_rfl) (by kernel_rfl) ?_
    refine RunsI.cond true 8 (by kernel_rfl) ?_
    refine RunsI.go 1 [.c 9, .c 10, .c 12] (by kernel_rfl) ?_
    refine RunsI.region (by kernel_rfl) ?_
    refine RegI.pure 1 [4] [(4, .bool false)] (by kernel_rfl) ?_
    refine RegI.done (by kernel_rfl) ?_
    refine RunsI.ret (.bool false) (by kernel_rfl) (by kernel_rfl) ?_
    obtain rfl := Option.some.inj h
    exact ⟨rfl, h8.below⟩
  · skip
    refine RunsI.fix 10 false hc11 (by kernel_rfl) (by kernel_rfl) ?_
    refine RunsI.cond false 11 (by kernel_rfl) ?_
    refine RunsI.go 1 [.c 12] (by kernel_rfl) ?_
    refine RunsI.go 1 [.c 13, .c 14] (by kernel_rfl) ?_
    refine RunsI.region (by kernel_rfl) ?_
    refine RegI.op (by kernel_rfl) (OpE.loadBox 11 9 25 b2 0 (.agg #[.slice pA0_0 p0_0.length pc0_0, .int .i64 p0_1, .int .i64 p0_2, .slice pA0_3 p0_3.length pc0_3]) h8 (by kernel_rfl) (by kernel_rfl) rfl (by kernel_rfl) ?_)
    obtain ⟨t16, hg15, h⟩ := of_bind h
    refine RegI.op (by kernel_rfl) (OpE.call 12 (by kernel_rfl) 10 #[.agg #[.slice pA0_0 p0_0.length pc0_0, .int .i64 p0_1, .int .i64 p0_2, .slice pA0_3 p0_3.length pc0_3]] (by kernel_rfl) ((charabanclaw29_few_10_ok K _ w6  pA0_0 pc0_0 pA0_3 pc0_3 p0_0 p0_1 p0_2 p0_3 h8.old' (h8.get 0 rfl) (h8.get 1 rfl) hg15).mono ?_))
    rintro _ w12 ⟨rfl, hb13⟩
    refine ⟨_, rfl, ?_⟩
    have h14 := h8.call hb13
    refine RegI.pure 1 [1, 2, 6] [(1, .slice pA1 p1.length pc1), (2, .pointer (some ⟨b2, 0, none⟩)), (6, .bool t16)] (by kernel_rfl) ?_
    refine RegI.done (by kernel_rfl) ?_
    refine RunsI.go 2 [.c 16, .c 17, .c 22] (by kernel_rfl) ?_
    refine RunsI.region (by kernel_rfl) ?_
    refine RegI.pure 3 [1, 2, 15] [(1, .slice pA1 p1.length pc1), (2, .pointer (some ⟨b2, 0, none⟩)), (15, .bool (!t16))] (by kernel_rfl) ?_
    obtain ⟨j21, hJ22, h⟩ := of_let h
    have hj23 : ∀ (t18 : Bool) (w20 : World), j21 t18 = some r → Holds M0 w0 w20 [sl (Rp.pair (Rp.int .i64) (Rp.pair (Rp.int .i64) (Rp.pair (Rp.int .i64) (Rp.pair (Rp.int .u16) (Rp.pair (Rp.int .i64) (Rp.int .u8)))))) (.slice pA1 p1.length pc1) p1, box b2 25 [.slice pA0_0 p0_0.length pc0_0, .int .i64 p0_1, .int .i64 p0_2, .slice pA0_3 p0_3.length pc0_3], sl (Rp.int .u8) (.slice pA0_0 p0_0.length pc0_0) p0_0, sl (Rp.pair (Rp.int .i64) (Rp.int .u8)) (.slice pA0_3 p0_3.length pc0_3) p0_3, gl 0 (tab_0.flatMap en_0), gl 1 (tab_1.flatMap en_1), gl 2 (tab_2.flatMap en_2), gl 3 (tab_3.flatMap en_3), gl 7 (tab_7.flatMap en_7), gl 8 (tab_8.flatMap en_8)] → RegI F3 16 [.c 17, .c 22] 7 [(1, .slice pA1 p1.length pc1), (2, .pointer (some ⟨b2, 0, none⟩)), (19, .bool t18)] w20 (charabanclaw29_HistoryTells_3.post M0 w0 r) := by
      intro t18 w20 h h19
      rw [hJ22] at h
      clear hJ22
      dsimp only at h
      refine RegI.done (by kernel_rfl) ?_
      rcases of_cond h with ⟨hc24, h⟩ | ⟨hc24, h⟩
      · skip
        refine RunsI.fix 19 true hc24 (by kernel_rfl) (by kernel_rfl) ?_
        refine RunsI.cond true 18 (by kernel_rfl) ?_
        refine RunsI.go 1 [.c 19, .c 20, .c 22] (by kernel_rfl) ?_
        refine RunsI.region (by kernel_rfl) ?_
        refine RegI.pure 1 [4] [(4, .bool true)] (by kernel_rfl) ?_
        refine RegI.done (by kernel_rfl) ?_
        refine RunsI.ret (.bool true) (by kernel_rfl) (by kernel_rfl) ?_
        obtain rfl := Option.some.inj h
        exact ⟨rfl, h19.below⟩
      · skip
        refine RunsI.fix 19 false hc24 (by kernel_rfl) (by kernel_rfl) ?_
        refine RunsI.cond false 21 (by kernel_rfl) ?_
        refine RunsI.go 1 [.c 22] (by kernel_rfl) ?_
        refine RunsI.go 1 [.c 23, .c 24] (by kernel_rfl) ?_
        refine RunsI.region (by kernel_rfl) ?_
        refine RegI.op (by kernel_rfl) (OpE.loadBox 20 1 25 b2 0 (.agg #[.slice pA0_0 p0_0.length pc0_0, .int .i64 p0_1, .int .i64 p0_2, .slice pA0_3 p0_3.length pc0_3]) h19 (by kernel_rfl) (by kernel_rfl) rfl (by kernel_rfl) ?_)
        obtain ⟨⟨t29, t33, t34, t35⟩, hg28, h⟩ := of_bind h
        dsimp only at h
        refine RegI.op (by kernel_rfl) (OpE.call 21 (by kernel_rfl) 12 #[.agg #[.slice pA0_0 p0_0.length pc0_0, .int .i64 p0_1, .int .i64 p0_2, .slice pA0_3 p0_3.length pc0_3]] (by kernel_rfl) ((charabanclaw29_store_12_ok K _ w20  pA0_0 pc0_0 pA0_3 pc0_3 p0_0 p0_1 p0_2 p0_3 h19.old' (h19.get 2 rfl) (h19.get 3 rfl) hg28).mono ?_))
        rintro _ w25 ⟨A30, c31, A36, c37, rfl, hr39⟩
        refine ⟨_, rfl, ?_⟩
        have hb26 := hr39.below
        have h27 := h19.join hr39
        refine RegI.pure 1 [1, 2, 21, 22] [(1, .slice pA1 p1.length pc1), (2, .pointer (some ⟨b2, 0, none⟩)), (21, .agg #[.slice A30 t29.length c31, .int .i64 t33, .int .i64 t34, .slice A36 t35.length c37]), (22, .slice pA1 p1.length pc1)] (by kernel_rfl) ?_
        obtain ⟨⟨t45, t49, t50, t51⟩, hg44, h⟩ := of_bind h
        dsimp only at h
        have h40 := h27.release 11 rfl
        refine RegI.op (by kernel_rfl) (OpE.call 23 (by kernel_rfl) 11 #[.agg #[.slice A30 t29.length c31, .int .i64 t33, .int .i64 t34, .slice A36 t35.length c37], .slice pA1 p1.length pc1] (by kernel_rfl) ((charabancref29_Behind_11_ok K _ w25  A30 c31 A36 c37 pA1 pc1 t29 t33 t34 t35 p1 h40.old' (h40.get 10 rfl) (h40.get 11 rfl) (h40.get 0 rfl) hg44).mono ?_))
        rintro _ w41 ⟨A46, c47, A52, c53, rfl, hr55⟩
        refine ⟨_, rfl, ?_⟩
        have hb42 := hr55.below
        have h43 := h40.join hr55
        refine RegI.op (by kernel_rfl) (OpE.box 7 31 [.slice none 0 0, .int .i64 0, .int .i64 0, .slice none 0 0] h43 (by kernel_rfl) (by kernel_rfl) ?_)
        intro w56 b57 h58 hb59 hn60
        refine RegI.op (by kernel_rfl) (OpE.storeBox 14 31 b57 0 (.agg #[.slice A46 t45.length c47, .int .i64 t49, .int .i64 t50, .slice A52 t51.length c53]) [.slice A46 t45.length c47, .int .i64 t49, .int .i64 t50, .slice A52 t51.length c53] h58 (by kernel_rfl) (by kernel_rfl) rfl (by kernel_rfl) (by kernel_rfl) (by kernel_rfl) ?_)
        intro w61 h62 hk63
        refine RegI.done (by kernel_rfl) ?_
        refine RunsI.go 1 [.c 25, .c 26] (by kernel_rfl) ?_
        refine RunsI.any 17 (by kernel_rfl) (by kernel_rfl) (by kernel_rfl) (Kp ([] : List Nat) (World.drew w61)) ?_
        have h65 := h62.drew
        generalize World.drew w61 = w64 at h65 ⊢
        have hS66 := Kp.refl ([] : List Nat) w64
        refine AnyE.loadBox 0 24 1 25 b2 0 (.agg #[.slice pA0_0 p0_0.length pc0_0, .int .i64 p0_1, .int .i64 p0_2, .slice pA0_3 p0_3.length pc0_3]) [] h65 rfl (by kernel_rfl) hS66 rfl rfl (by kernel_rfl) (by kernel_rfl) ?_
        refine AnyE.pure 1 25 (.slice pA1 p1.length pc1) (by kernel_rfl) hS66 (fun _ => by kernel_rfl) ?_
        obtain ⟨t69, hg68, h⟩ := of_bind h
        refine AnyE.call 2 26 (.int .i64 t69) 13 #[.agg #[.slice pA0_0 p0_0.length pc0_0, .int .i64 p0_1, .int .i64 p0_2, .slice pA0_3 p0_3.length pc0_3], .slice pA1 p1.length pc1] (by kernel_rfl) hS66 (fun _ => by kernel_rfl) (fun w hk => history_Legal_13_ok K (fun _ => False) w pA0_0 pc0_0 pA0_3 pc0_3 pA1 pc1 p0_0 p0_1 p0_2 p0_3 p1 (fun _ hf => hf.elim) (Sl.mono (h65.atI [] rfl hk 2 rfl rfl) (fun _ _ hf => hf.elim)) (Sl.mono (h65.atI [] rfl hk 3 rfl rfl) (fun _ _ hf => hf.elim)) (Sl.mono (h65.atI [] rfl hk 0 rfl rfl) (fun _ _ hf => hf.elim)) ⟨(h65.atI [] rfl hk 6 rfl rfl).1, fun hf => hf.elim, (h65.atI [] rfl hk 6 rfl rfl).2.2⟩ hg68) ?_
        refine AnyE.loadBox 3 27 1 25 b2 0 (.agg #[.slice pA0_0 p0_0.length pc0_0, .int .i64 p0_1, .int .i64 p0_2, .slice pA0_3 p0_3.length pc0_3]) [] h65 rfl (by kernel_rfl) hS66 rfl rfl (by kernel_rfl) (by kernel_rfl) ?_
        refine AnyE.pure 5 29 (.slice pA1 p1.length pc1) (by kernel_rfl) hS66 (fun _ => by kernel_rfl) ?_
        refine AnyE.one 4 (by kernel_rfl) (fun w70 hu71 => ?_)
        have h72 := h65.call hu71
        have hS73 := hS66.up hu71
        obtain ⟨⟨t78, t82, t83, t84⟩, hg77, h⟩ := of_bind h
        dsimp only at h
        refine OpE.call 28 (by kernel_rfl) 12 #[.agg #[.slice pA0_0 p0_0.length pc0_0, .int .i64 p0_1, .int .i64 p0_2, .slice pA0_3 p0_3.length pc0_3]] (by kernel_rfl) ((charabanclaw29_store_12_ok K _ w70  pA0_0 pc0_0 pA0_3 pc0_3 p0_0 p0_1 p0_2 p0_3 h72.old' (h72.get 2 rfl) (h72.get 3 rfl) hg77).mono ?_)
        rintro _ w74 ⟨A79, c80, A85, c86, rfl, hr88⟩
        refine ⟨_, rfl, ?_⟩
        have hb75 := hr88.below
        have h76 := h72.join hr88
        have hS89 := hS73.up hb75
        refine ⟨hS89, ?_⟩
        refine AnyE.one 6 (by kernel_rfl) (fun w90 hu91 => ?_)
        have h92 := h76.call hu91
        have hS93 := hS89.up hu91
        obtain ⟨t98, hg97, h⟩ := of_bind h
        refine OpE.call 30 (by kernel_rfl) 14 #[.agg #[.slice A79 t78.length c80, .int .i64 t82, .int .i64 t83, .slice A85 t84.length c86], .slice pA1 p1.length pc1] (by kernel_rfl) ((charabancref29_Legal_14_ok K (fun _ => False) w90  A79 c80 A85 c86 pA1 pc1 t78 t82 t83 t84 p1 (fun _ hf => hf.elim) (h92.slAny 15 rfl) (h92.ownSl 16 rfl) (h92.slAny 0 rfl) hg97).mono ?_)
        rintro _ w94 ⟨rfl, hb95⟩
        refine ⟨_, rfl, ?_⟩
        have h96 := h92.call hb95
        have hS99 := hS93.up hb95
        refine ⟨hS99, ?_⟩
        refine AnyE.pure 7 31 (.bool (t69 == t98)) (by kernel_rfl) hS99 (fun _ => by kernel_rfl) ?_
        refine AnyE.pure 8 32 (.bool (t69 == t98)) (by kernel_rfl) hS99 (fun _ => by kernel_rfl) ?_
        rcases of_cond h with ⟨hc100, h⟩ | ⟨hc100, h⟩
        · skip
          refine AnyE.fix 32 true hc100 (by kernel_rfl) (by kernel_rfl) ?_
          refine AnyE.loadBox 9 33 1 25 b2 0 (.agg #[.slice pA0_0 p0_0.length pc0_0, .int .i64 p0_1, .int .i64 p0_2, .slice pA0_3 p0_3.length pc0_3]) [] h65 rfl (by kernel_rfl) hS99 rfl rfl (by kernel_rfl) (by kernel_rfl) ?_
          refine AnyE.pure 10 34 (.slice pA1 p1.length pc1) (by kernel_rfl) hS99 (fun _ => by kernel_rfl) ?_
          refine AnyE.loadBox 13 37 14 31 b57 0 (.agg #[.slice A46 t45.length c47, .int .i64 t49, .int .i64 t50, .slice A52 t51.length c53]) [] h65 rfl (by kernel_rfl) hS99 rfl rfl (by kernel_rfl) (by kernel_rfl) ?_
          refine AnyE.one 11 (by kernel_rfl) (fun w101 hu102 => ?_)
          have h103 := h96.call hu102
          have hS104 := hS99.up hu102
          obtain ⟨⟨t109, t113, t114, t115⟩, hg108, h⟩ := of_bind h
          dsimp only at h
          refine OpE.call 35 (by kernel_rfl) 16 #[.agg #[.slice pA0_0 p0_0.length pc0_0, .int .i64 p0_1, .int .i64 p0_2, .slice pA0_3 p0_3.length pc0_3], .slice pA1 p1.length pc1] (by kernel_rfl) ((history_Behind_16_ok K _ w101  pA0_0 pc0_0 pA0_3 pc0_3 pA1 pc1 p0_0 p0_1 p0_2 p0_3 p1 h103.old' (h103.get 2 rfl) (h103.get 3 rfl) (h103.get 0 rfl) (h103.get 6 rfl) hg108).mono ?_)
          rintro _ w105 ⟨A110, c111, A116, c117, rfl, hr119⟩
          refine ⟨_, rfl, ?_⟩
          have hb106 := hr119.below
          have h107 := h103.join hr119
          have hS120 := hS104.up hb106
          refine ⟨hS120, ?_⟩
          refine AnyE.one 12 (by kernel_rfl) (fun w121 hu122 => ?_)
          have h123 := h107.call hu122
          have hS124 := hS120.up hu122
          obtain ⟨⟨t129, t133, t134, t135⟩, hg128, h⟩ := of_bind h
          dsimp only at h
          refine OpE.call 36 (by kernel_rfl) 12 #[.agg #[.slice A110 t109.length c111, .int .i64 t113, .int .i64 t114, .slice A116 t115.length c117]] (by kernel_rfl) ((charabanclaw29_store_12_ok K _ w121  A110 c111 A116 c117 t109 t113 t114 t115 h123.old' (h123.get 17 rfl) (h123.get 18 rfl) hg128).mono ?_)
          rintro _ w125 ⟨A130, c131, A136, c137, rfl, hr139⟩
          refine ⟨_, rfl, ?_⟩
          have hb126 := hr139.below
          have h127 := h123.join hr139
          have hS140 := hS124.up hb126
          refine ⟨hS140, ?_⟩
          refine AnyE.one 14 (by kernel_rfl) (fun w141 hu142 => ?_)
          have h143 := h127.call hu142
          have hS144 := hS140.up hu142
          obtain ⟨t149, hg148, h⟩ := of_bind h
          refine OpE.call 38 (by kernel_rfl) 15 #[.agg #[.slice A130 t129.length c131, .int .i64 t133, .int .i64 t134, .slice A136 t135.length c137], .agg #[.slice A46 t45.length c47, .int .i64 t49, .int .i64 t50, .slice A52 t51.length c53]] (by kernel_rfl) ((charabancref19_Same_15_ok K (fun _ => False) w141  A130 c131 A136 c137 A46 c47 A52 c53 t129 t133 t134 t135 t45 t49 t50 t51 (fun _ hf => hf.elim) (h143.slAny 19 rfl) (h143.ownSl 20 rfl) (h143.slAny 12 rfl) (h143.slAny 13 rfl) hg148).mono ?_)
          rintro _ w145 ⟨rfl, hb146⟩
          refine ⟨_, rfl, ?_⟩
          have h147 := h143.call hb146
          have hS150 := hS144.up hb146
          refine ⟨hS150, ?_⟩
          refine AnyE.pure 15 39 (.bool t149) (by kernel_rfl) hS150 (fun _ => by kernel_rfl) ?_
          refine AnyE.pure 16 4 (.bool t149) (by kernel_rfl) hS150 (fun _ => by kernel_rfl) ?_
          refine AnyE.done (by kernel_rfl) (fun w151 hu152 => ?_)
          have h153 := h147.call hu152
          refine RunsI.only [4] [(4, .bool t149)] (by kernel_rfl) (by kernel_rfl) ?_
          refine RunsI.ret (.bool t149) (by kernel_rfl) (by kernel_rfl) ?_
          obtain rfl := Option.some.inj h
          exact ⟨rfl, h153.below⟩
        · skip
          refine AnyE.fix 32 false hc100 (by kernel_rfl) (by kernel_rfl) ?_
          refine AnyE.no 9 33 (by kernel_rfl) hS99 ?_
          refine AnyE.no 10 34 (by kernel_rfl) hS99 ?_
          refine AnyE.no 11 35 (by kernel_rfl) hS99 ?_
          refine AnyE.no 12 36 (by kernel_rfl) hS99 ?_
          refine AnyE.no 13 37 (by kernel_rfl) hS99 ?_
          refine AnyE.no 14 38 (by kernel_rfl) hS99 ?_
          refine AnyE.pure 15 39 (.bool false) (by kernel_rfl) hS99 (fun _ => by kernel_rfl) ?_
          refine AnyE.pure 16 4 (.bool false) (by kernel_rfl) hS99 (fun _ => by kernel_rfl) ?_
          refine AnyE.done (by kernel_rfl) (fun w154 hu155 => ?_)
          have h156 := h96.call hu155
          refine RunsI.only [4] [(4, .bool false)] (by kernel_rfl) (by kernel_rfl) ?_
          refine RunsI.ret (.bool false) (by kernel_rfl) (by kernel_rfl) ?_
          obtain rfl := Option.some.inj h
          exact ⟨rfl, h156.below⟩
    clear hJ22
    rcases of_cond h with ⟨hc17, h⟩ | ⟨hc17, h⟩
    · skip
      refine RegI.fix 15 true hc17 (by kernel_rfl) (by kernel_rfl) ?_
      refine RegI.pure 4 [1, 2, 19] [(1, .slice pA1 p1.length pc1), (2, .pointer (some ⟨b2, 0, none⟩)), (19, .bool true)] (by kernel_rfl) ?_
      refine RegI.only [1, 2, 19] [(1, .slice pA1 p1.length pc1), (2, .pointer (some ⟨b2, 0, none⟩)), (19, .bool true)] (by kernel_rfl) (by kernel_rfl) ?_
      exact hj23 true w12 h (h14.pick [2, 9, 0, 1, 3, 4, 5, 6, 7, 8] (by decide))
    · skip
      refine RegI.fix 15 false hc17 (by kernel_rfl) (by kernel_rfl) ?_
      refine RegI.pure 4 [1, 2, 19] [(1, .slice pA1 p1.length pc1), (2, .pointer (some ⟨b2, 0, none⟩)), (19, .bool (decide ((p1.length : Int) > 100)))] (by kernel_rfl) ?_
      refine RegI.only [1, 2, 19] [(1, .slice pA1 p1.length pc1), (2, .pointer (some ⟨b2, 0, none⟩)), (19, .bool (decide ((p1.length : Int) > 100)))] (by kernel_rfl) (by kernel_rfl) ?_
      exact hj23 (decide ((p1.length : Int) > 100)) w12 h (h14.pick [2, 9, 0, 1, 3, 4, 5, 6, 7, 8] (by decide))
end
end Go.Proofs.YtmebkghfjamffaaDoor.His
