/- The statement's function ChainTells as a plain Lean function; written by wip/eng.py. -/
import Derived.Test.YtngcadmhnbpgjaaChain
set_option linter.unusedVariables false
set_option linter.unusedSimpArgs false
set_option maxHeartbeats 4000000
namespace Go.Proofs.Ytngcadmhnbpgjaa.Chain
open Go.RowKit Go.Eng
noncomputable def B3 : Code := (Try.f3.body).getD .skip
noncomputable def F3 : Fun Try.prog := ⟨3, Try.f3, B3, 96, Try.func3, by kernel_rfl, by kernel_rfl⟩

/-! ### charabanc/charabanclaw26.ChainTells (function 3) -/
section
def charabanclaw26_ChainTells_3.post (M0 : Nat → Prop) (w0 : World) (r : Bool) : Ending → World → Prop := fun e w => e = .returned (.bool r) ∧ Below w0.heap.size w0 w
def charabanclaw26_ChainTells_3.l0 (K : Nat) (p0 : List (Bool × Bool)) (t126 : List Bool) (t129 : List Bool) (t132 : List (Bool × Bool)) (t135 : List (Bool × Bool)) (t138 : List (Bool × Bool)) (t141 : List (Bool × Bool)) : Nat → Int → Option (Lp Unit Unit)
  | 0, _ => none
  | k + 1, t142 => cond (decide (t142 < (t126.length : Int))) (cond (inR t142 t126.length) (cond (inR t142 t129.length) (cond ((rdD t126 t142) != (rdD t129 t142)) (some (Lp.ret ())) (charabanclaw26_ChainTells_3.l0 K p0 t126 t129 t132 t135 t138 t141 k (IntKind.wrap .i64 (t142 + 1)))) none) none) (some (Lp.go ()))
set_option maxRecDepth 100000 in
theorem charabanclaw26_ChainTells_3.l0_ok (K : Nat) (M0 : Nat → Prop) (w0 : World) (pA0 : Option Addr) (pc0 : Nat) (p0 : List (Bool × Bool)) (t126 : List Bool) (t129 : List Bool) (t132 : List (Bool × Bool)) (t135 : List (Bool × Bool)) (t138 : List (Bool × Bool)) (t141 : List (Bool × Bool)) (c125 : Nat) (c128 : Nat) (A130 : Option Addr) (c131 : Nat) (A133 : Option Addr) (c134 : Nat) (A136 : Option Addr) (c137 : Nat) (A139 : Option Addr) (c140 : Nat) (R : Ending → World → Prop) (x : Lp Unit Unit) (hk0 : ∀ (w1 : World), x = Lp.go () → Holds M0 w0 w1 [own (Rp.pair Rp.bool Rp.bool) 49 (.slice A130 t132.length c131) t132, sl (Rp.pair Rp.bool Rp.bool) (.slice A133 t135.length c134) t135, own (Rp.pair Rp.bool Rp.bool) 49 (.slice A136 t138.length c137) t138, sl (Rp.pair Rp.bool Rp.bool) (.slice A139 t141.length c140) t141] → RunsI F3 [.c 61] [(6, .slice A130 t132.length c131), (8, .slice A133 t135.length c134), (10, .slice A136 t138.length c137), (12, .slice A139 t141.length c140)] w1 R) (hk1 : ∀ (w1 : World), x = Lp.ret () → Holds M0 w0 w1 [] → R (.returned (.bool false)) w1) :
    ∀ (k : Nat) (t142 : Int) (A124 : Option Addr) (A127 : Option Addr) (w : World), charabanclaw26_ChainTells_3.l0 K p0 t126 t129 t132 t135 t138 t141 k t142 = some x → Holds M0 w0 w [own Rp.bool 4 (.slice A124 t126.length c125) t126, own Rp.bool 4 (.slice A127 t129.length c128) t129, own (Rp.pair Rp.bool Rp.bool) 49 (.slice A130 t132.length c131) t132, sl (Rp.pair Rp.bool Rp.bool) (.slice A133 t135.length c134) t135, own (Rp.pair Rp.bool Rp.bool) 49 (.slice A136 t138.length c137) t138, sl (Rp.pair Rp.bool Rp.bool) (.slice A139 t141.length c140) t141] → RunsI F3 [.c 45, .lp 45, .blk 0, .c 61] [(4, .slice A124 t126.length c125), (5, .slice A127 t129.length c128), (6, .slice A130 t132.length c131), (8, .slice A133 t135.length c134), (10, .slice A136 t138.length c137), (12, .slice A139 t141.length c140), (14, .int .i64 t142)] w R := by
  intro k
  induction k with
  | zero => intro t142 A124 A127 w h hH; exact absurd h (by simp [charabanclaw26_ChainTells_3.l0])
  | succ k ih =>
    intro t142 A124 A127 w h hH
    rw [charabanclaw26_ChainTells_3.l0.eq_2] at h
    refine RunsI.go 1 [.c 46, .c 51, .lp 45, .blk 0, .c 61] (by kernel_rfl) ?_
    refine RunsI.go 1 [.c 47, .c 48, .c 51, .lp 45, .blk 0, .c 61] (by kernel_rfl) ?_
    refine RunsI.region (by kernel_rfl) ?_
    refine RegI.pure 4 [4, 5, 6, 8, 10, 12, 14, 74] [(4, .slice A124 t126.length c125), (5, .slice A127 t129.length c128), (6, .slice A130 t132.length c131), (8, .slice A133 t135.length c134), (10, .slice A136 t138.length c137), (12, .slice A139 t141.length c140), (14, .int .i64 t142), (74, .bool (decide (t142 < (t126.length : Int))))] (by kernel_rfl) ?_
    refine RegI.done (by kernel_rfl) ?_
    rcases of_cond h with ⟨hc143, h⟩ | ⟨hc143, h⟩
    · skip
      refine RunsI.fix 74 true hc143 (by kernel_rfl) (by kernel_rfl) ?_
      refine RunsI.cond true 49 (by kernel_rfl) ?_
      refine RunsI.go 1 [.c 51, .lp 45, .blk 0, .c 61] (by kernel_rfl) ?_
      refine RunsI.go 3 [.c 54, .c 55, .blk 1, .c 60, .lp 45, .blk 0, .c 61] (by kernel_rfl) ?_
      refine RunsI.any 9 (by kernel_rfl) (by kernel_rfl) (by kernel_rfl) (Kp ([] : List Nat) (World.drew w)) ?_
      have h145 := hH.drew
      generalize World.drew w = w144 at h145 ⊢
      have hS146 := Kp.refl ([] : List Nat) w144
      refine AnyE.pure 0 77 (.slice A124 t126.length c125) (by kernel_rfl) hS146 (fun _ => by kernel_rfl) ?_
      refine AnyE.pure 1 78 (.int .i64 t142) (by kernel_rfl) hS146 (fun _ => by kernel_rfl) ?_
      obtain ⟨hc148, h⟩ := of_cond0 h
      obtain ⟨b149, rfl⟩ := h145.ownSome 0 rfl hc148
      refine AnyE.idxOwn 2 79 0 24 4 t142 h145 (by kernel_rfl) hS146 rfl (by kernel_rfl) (by kernel_rfl) hc148 ?_
      refine AnyE.loadOwn 3 80 0 4 4 t142 0 (.bool (rdD t126 t142)) [] (o := (Int.toNat t142) * 1 + 0) h145 rfl (by kernel_rfl) hS146 rfl rfl (by kernel_rfl) rfl hc148 (fun _ _ hk => by obtain rfl := hk; kernel_rfl) ?_
      refine AnyE.pure 4 81 (.slice A127 t129.length c128) (by kernel_rfl) hS146 (fun _ => by kernel_rfl) ?_
      refine AnyE.pure 5 82 (.int .i64 t142) (by kernel_rfl) hS146 (fun _ => by kernel_rfl) ?_
      obtain ⟨hc150, h⟩ := of_cond0 h
      obtain ⟨b151, rfl⟩ := h145.ownSome 1 rfl hc150
      refine AnyE.idxOwn 6 83 1 24 4 t142 h145 (by kernel_rfl) hS146 rfl (by kernel_rfl) (by kernel_rfl) hc150 ?_
      refine AnyE.loadOwn 7 84 1 4 4 t142 0 (.bool (rdD t129 t142)) [] (o := (Int.toNat t142) * 1 + 0) h145 rfl (by kernel_rfl) hS146 rfl rfl (by kernel_rfl) rfl hc150 (fun _ _ hk => by obtain rfl := hk; kernel_rfl) ?_
      refine AnyE.pure 8 85 (.bool ((rdD t126 t142) != (rdD t129 t142))) (by kernel_rfl) hS146 (fun _ => by kernel_rfl) ?_
      refine AnyE.done (by kernel_rfl) (fun w152 hu153 => ?_)
      have h154 := h145.call hu153
      refine RunsI.only [4, 5, 6, 8, 10, 12, 14, 85] [(4, .slice (some ⟨b149, 0, none⟩) t126.length c125), (5, .slice (some ⟨b151, 0, none⟩) t129.length c128), (6, .slice A130 t132.length c131), (8, .slice A133 t135.length c134), (10, .slice A136 t138.length c137), (12, .slice A139 t141.length c140), (14, .int .i64 t142), (85, .bool ((rdD t126 t142) != (rdD t129 t142)))] (by kernel_rfl) (by kernel_rfl) ?_
      rcases of_cond h with ⟨hc155, h⟩ | ⟨hc155, h⟩
      · skip
        refine RunsI.fix 85 true hc155 (by kernel_rfl) (by kernel_rfl) ?_
        refine RunsI.cond true 56 (by kernel_rfl) ?_
        refine RunsI.go 1 [.c 57, .c 58, .blk 1, .c 60, .lp 45, .blk 0, .c 61] (by kernel_rfl) ?_
        refine RunsI.region (by kernel_rfl) ?_
        refine RegI.pure 1 [2] [(2, .bool false)] (by kernel_rfl) ?_
        refine RegI.done (by kernel_rfl) ?_
        refine RunsI.ret (.bool false) (by kernel_rfl) (by kernel_rfl) ?_
        exact hk1 w152 (Option.some.inj h).symm (h154.pick [] (by decide))
      · skip
        refine RunsI.fix 85 false hc155 (by kernel_rfl) (by kernel_rfl) ?_
        refine RunsI.cond false 59 (by kernel_rfl) ?_
        refine RunsI.go 1 [.blk 1, .c 60, .lp 45, .blk 0, .c 61] (by kernel_rfl) ?_
        refine RunsI.go 1 [.c 60, .lp 45, .blk 0, .c 61] (by kernel_rfl) ?_
        refine RunsI.region (by kernel_rfl) ?_
        refine RegI.pure 3 [4, 5, 6, 8, 10, 12, 14] [(4, .slice (some ⟨b149, 0, none⟩) t126.length c125), (5, .slice (some ⟨b151, 0, none⟩) t129.length c128), (6, .slice A130 t132.length c131), (8, .slice A133 t135.length c134), (10, .slice A136 t138.length c137), (12, .slice A139 t141.length c140), (14, .int .i64 (IntKind.wrap .i64 (t142 + 1)))] (by kernel_rfl) ?_
        refine RegI.done (by kernel_rfl) ?_
        refine RunsI.go 1 [.c 45, .lp 45, .blk 0, .c 61] (by kernel_rfl) ?_
        refine RunsI.only [4, 5, 6, 8, 10, 12, 14] [(4, .slice (some ⟨b149, 0, none⟩) t126.length c125), (5, .slice (some ⟨b151, 0, none⟩) t129.length c128), (6, .slice A130 t132.length c131), (8, .slice A133 t135.length c134), (10, .slice A136 t138.length c137), (12, .slice A139 t141.length c140), (14, .int .i64 (IntKind.wrap .i64 (t142 + 1)))] (by kernel_rfl) (by kernel_rfl) ?_
        exact ih (IntKind.wrap .i64 (t142 + 1)) (some ⟨b149, 0, none⟩) (some ⟨b151, 0, none⟩) w152 h (h154.pick [0, 1, 2, 3, 4, 5] (by decide))
    · skip
      refine RunsI.fix 74 false hc143 (by kernel_rfl) (by kernel_rfl) ?_
      refine RunsI.cond false 50 (by kernel_rfl) ?_
      refine RunsI.go 1 [.c 61] (by kernel_rfl) ?_
      refine RunsI.only [6, 8, 10, 12] [(6, .slice A130 t132.length c131), (8, .slice A133 t135.length c134), (10, .slice A136 t138.length c137), (12, .slice A139 t141.length c140)] (by kernel_rfl) (by kernel_rfl) ?_
      exact hk0 w (Option.some.inj h).symm (hH.pick [2, 3, 4, 5] (by decide))
def charabanclaw26_ChainTells_3.f (K : Nat) (p0 : List (Bool × Bool)) : Option Bool := (charabanclaw26_awake_11.f K).bind fun t5 => cond (!t5) (some false) (cond (decide ((p0.length : Int) > 60)) (some true) ((chain_Enabled_12.f K p0).bind fun t12 => (charabanclaw26_plain_14.f K p0).bind fun t21 => (charabancref26_Enabled_13.f K t21).bind fun t30 => (chain_Ack_15.f K p0).bind fun yt39 => (charabanclaw26_plain_14.f K p0).bind fun t49 => (charabancref26_Ack_16.f K t49).bind fun yt59 => (chain_Reti_17.f K p0).bind fun yt69 => (charabanclaw26_plain_14.f K p0).bind fun t79 => (charabancref26_Reti_18.f K t79).bind fun yt89 => Let (fun (t117 : Bool) => cond t117 (some false) ((charabanclaw26_ChainTells_3.l0 K p0 t12 t30 yt39.1 yt59.1 yt69.1 yt89.1 K 0).bind (fun x156 => Lp.elim x156 (fun _ => some false) (fun _ => (charabanclaw26_plain_14.f K yt39.1).bind fun t166 => (charabancref26_Same_21.f K t166 yt59.1).bind fun t175 => cond t175 ((charabanclaw26_plain_14.f K yt69.1).bind fun t181 => (charabancref26_Same_21.f K t181 yt89.1).bind fun t190 => some t190) (some false))))) (fun j120 => cond ((t12.length : Int) != (t30.length : Int)) (j120 true) (cond (yt39.2 != yt59.2) (j120 true) (cond (yt69.2 != yt89.2) (j120 true) ((chain_Grants_19.f K p0).bind fun t102 => (charabanclaw26_plain_14.f K p0).bind fun t107 => (charabancref26_Grants_20.f K t107).bind fun t116 => j120 (t102 != t116)))))))
set_option maxRecDepth 100000 in
theorem charabanclaw26_ChainTells_3_ok (K : Nat) (M0 : Nat → Prop) (w0 : World) (pA0 : Option Addr) (pc0 : Nat) (p0 : List (Bool × Bool)) (ho : ∀ b, M0 b → b < w0.heap.size) (hs0 : Sl (Rp.pair Rp.bool Rp.bool) w0 M0 (.slice pA0 p0.length pc0) p0) {r : Bool} (h : charabanclaw26_ChainTells_3.f K p0 = some r) :
    Calls Try.prog 3 #[.slice pA0 p0.length pc0] w0 (charabanclaw26_ChainTells_3.post M0 w0 r) := by
  unfold charabanclaw26_ChainTells_3.f at h
  have h0 : Holds M0 w0 w0 [] := Holds.start ho
  have h00 := h0.addSl (Rp.pair Rp.bool Rp.bool) (.slice pA0 p0.length pc0) p0 (hs0.mono (fun _ _ hm => hm.elim id (fun hm => absurd hm (by simp [mines, sl]))))
  have h0 : Holds M0 w0 w0 [sl (Rp.pair Rp.bool Rp.bool) (.slice pA0 p0.length pc0) p0] := h00
  refine calls_of F3 rfl [.slice pA0 p0.length pc0] (by kernel_rfl) ?_
  refine RunsI.go 1 [.c 1, .c 2] (by kernel_rfl) ?_
  refine RunsI.region (by kernel_rfl) ?_
  refine RegI.pure 1 [0] [(0, .slice pA0 p0.length pc0)] (by kernel_rfl) ?_
  refine RegI.done (by kernel_rfl) ?_
  refine RunsI.go 1 [.c 3, .c 4] (by kernel_rfl) ?_
  refine RunsI.region (by kernel_rfl) ?_
  obtain ⟨t5, hg4, h⟩ := of_bind h
  refine RegI.op (by kernel_rfl) (OpE.call 15 (by kernel_rfl) 11 #[] (by kernel_rfl) ((charabanclaw26_awake_11_ok K _ w0  h0.old' hg4).mono ?_))
  rintro _ w1 ⟨rfl, hb2⟩
  refine ⟨_, rfl, ?_⟩
  have h3 := h0.call hb2
  refine RegI.pure 1 [0, 3] [(0, .slice pA0 p0.length pc0), (3, .bool t5)] (by kernel_rfl) ?_
  refine RegI.done (by kernel_rfl) ?_
  refine RunsI.go 2 [.c 6, .c 7, .c 12] (by kernel_rfl) ?_
  refine RunsI.region (by kernel_rfl) ?_
  refine RegI.pure 2 [0, 17] [(0, .slice pA0 p0.length pc0), (17, .bool (!t5))] (by kernel_rfl) ?_
  refine RegI.done (by kernel_rfl) ?_
  rcases of_cond h with ⟨hc6, h⟩ | ⟨hc6, h⟩
  · skip
    refine RunsI.fix 17 true hc6 (by kernel_rfl) (by kernel_rfl) ?_
    refine RunsI.cond true 8 (by kernel_rfl) ?_
    refine RunsI.go 1 [.c 9, .c 10, .c 12] (by kernel_rfl) ?_
    refine RunsI.region (by kernel_rfl) ?_
    refine RegI.pure 1 [2] [(2, .bool false)] (by kernel_rfl) ?_
    refine RegI.done (by kernel_rfl) ?_
    refine RunsI.ret (.bool false) (by kernel_rfl) (by kernel_rfl) ?_
    obtain rfl := Option.some.inj h
    exact ⟨rfl, h3.below⟩
  · skip
    refine RunsI.fix 17 false hc6 (by kernel_rfl) (by kernel_rfl) ?_
    refine RunsI.cond false 11 (by kernel_rfl) ?_
    refine RunsI.go 1 [.c 12] (by kernel_rfl) ?_
    refine RunsI.go 2 [.c 14, .c 15, .c 20] (by kernel_rfl) ?_
    refine RunsI.region (by kernel_rfl) ?_
    refine RegI.pure 3 [0, 20] [(0, .slice pA0 p0.length pc0), (20, .bool (decide ((p0.length : Int) > 60)))] (by kernel_rfl) ?_
    refine RegI.done (by kernel_rfl) ?_
    rcases of_cond h with ⟨hc7, h⟩ | ⟨hc7, h⟩
    · skip
      refine RunsI.fix 20 true hc7 (by kernel_rfl) (by kernel_rfl) ?_
      refine RunsI.cond true 16 (by kernel_rfl) ?_
      refine RunsI.go 1 [.c 17, .c 18, .c 20] (by kernel_rfl) ?_
      refine RunsI.region (by kernel_rfl) ?_
      refine RegI.pure 1 [2] [(2, .bool true)] (by kernel_rfl) ?_
      refine RegI.done (by kernel_rfl) ?_
      refine RunsI.ret (.bool true) (by kernel_rfl) (by kernel_rfl) ?_
      obtain rfl := Option.some.inj h
      exact ⟨rfl, h3.below⟩
    · skip
      refine RunsI.fix 20 false hc7 (by kernel_rfl) (by kernel_rfl) ?_
      refine RunsI.cond false 19 (by kernel_rfl) ?_
      refine RunsI.go 1 [.c 20] (by kernel_rfl) ?_
      refine RunsI.go 1 [.c 21, .c 22] (by kernel_rfl) ?_
      refine RunsI.region (by kernel_rfl) ?_
      refine RegI.pure 1 [0, 21] [(0, .slice pA0 p0.length pc0), (21, .slice pA0 p0.length pc0)] (by kernel_rfl) ?_
      obtain ⟨t12, hg11, h⟩ := of_bind h
      refine RegI.op (by kernel_rfl) (OpE.call 22 (by kernel_rfl) 12 #[.slice pA0 p0.length pc0] (by kernel_rfl) ((chain_Enabled_12_ok K _ w1  pA0 pc0 p0 h3.old' (h3.get 0 rfl) hg11).mono ?_))
      rintro _ w8 ⟨A13, c14, rfl, hr16⟩
      refine ⟨_, rfl, ?_⟩
      have hb9 := hr16.below
      have h10 := h3.join hr16
      refine RegI.pure 1 [0, 4] [(0, .slice pA0 p0.length pc0), (4, .slice A13 t12.length c14)] (by kernel_rfl) ?_
      refine RegI.done (by kernel_rfl) ?_
      refine RunsI.go 1 [.c 23, .c 24] (by kernel_rfl) ?_
      refine RunsI.region (by kernel_rfl) ?_
      refine RegI.pure 1 [0, 4, 23] [(0, .slice pA0 p0.length pc0), (4, .slice A13 t12.length c14), (23, .slice pA0 p0.length pc0)] (by kernel_rfl) ?_
      obtain ⟨t21, hg20, h⟩ := of_bind h
      refine RegI.op (by kernel_rfl) (OpE.call 24 (by kernel_rfl) 14 #[.slice pA0 p0.length pc0] (by kernel_rfl) ((charabanclaw26_plain_14_ok K _ w8  pA0 pc0 p0 h10.old' (h10.get 0 rfl) hg20).mono ?_))
      rintro _ w17 ⟨A22, c23, rfl, hr25⟩
      refine ⟨_, rfl, ?_⟩
      have hb18 := hr25.below
      have h19 := h10.join hr25
      obtain ⟨t30, hg29, h⟩ := of_bind h
      refine RegI.op (by kernel_rfl) (OpE.call 25 (by kernel_rfl) 13 #[.slice A22 t21.length c23] (by kernel_rfl) ((charabancref26_Enabled_13_ok K (fun _ => False) w17  A22 c23 t21 (fun _ hf => hf.elim) (h19.ownSl 2 rfl) hg29).mono ?_))
      rintro _ w26 ⟨A31, c32, rfl, hr34⟩
      refine ⟨_, rfl, ?_⟩
      have hb27 := hr34.below
      have h28 := h19.join (hr34.anyM ⟨own_flat (fun _ _ _ _ _ h => h), trivial⟩ _ h19.old')
      refine RegI.pure 1 [0, 4, 5] [(0, .slice pA0 p0.length pc0), (4, .slice A13 t12.length c14), (5, .slice A31 t30.length c32)] (by kernel_rfl) ?_
      refine RegI.done (by kernel_rfl) ?_
      refine RunsI.go 1 [.c 25, .c 26] (by kernel_rfl) ?_
      refine RunsI.region (by kernel_rfl) ?_
      refine RegI.pure 1 [0, 4, 5, 27] [(0, .slice pA0 p0.length pc0), (4, .slice A13 t12.length c14), (5, .slice A31 t30.length c32), (27, .slice pA0 p0.length pc0)] (by kernel_rfl) ?_
      obtain ⟨⟨t39, t43⟩, hg38, h⟩ := of_bind h
      dsimp only at h
      refine RegI.op (by kernel_rfl) (OpE.call 28 (by kernel_rfl) 15 #[.slice pA0 p0.length pc0] (by kernel_rfl) ((chain_Ack_15_ok K _ w26  pA0 pc0 p0 h28.old' (h28.get 0 rfl) hg38).mono ?_))
      rintro _ w35 ⟨A40, c41, rfl, hr44⟩
      refine ⟨_, rfl, ?_⟩
      have hb36 := hr44.below
      have h37 := h28.join hr44
      refine RegI.pure 5 [0, 4, 5, 6, 7] [(0, .slice pA0 p0.length pc0), (4, .slice A13 t12.length c14), (5, .slice A31 t30.length c32), (6, .slice A40 t39.length c41), (7, .int .i64 t43)] (by kernel_rfl) ?_
      refine RegI.done (by kernel_rfl) ?_
      refine RunsI.go 1 [.c 27, .c 28] (by kernel_rfl) ?_
      refine RunsI.region (by kernel_rfl) ?_
      refine RegI.pure 1 [0, 4, 5, 6, 7, 32] [(0, .slice pA0 p0.length pc0), (4, .slice A13 t12.length c14), (5, .slice A31 t30.length c32), (6, .slice A40 t39.length c41), (7, .int .i64 t43), (32, .slice pA0 p0.length pc0)] (by kernel_rfl) ?_
      obtain ⟨t49, hg48, h⟩ := of_bind h
      refine RegI.op (by kernel_rfl) (OpE.call 33 (by kernel_rfl) 14 #[.slice pA0 p0.length pc0] (by kernel_rfl) ((charabanclaw26_plain_14_ok K _ w35  pA0 pc0 p0 h37.old' (h37.get 0 rfl) hg48).mono ?_))
      rintro _ w45 ⟨A50, c51, rfl, hr53⟩
      refine ⟨_, rfl, ?_⟩
      have hb46 := hr53.below
      have h47 := h37.join hr53
      obtain ⟨⟨t59, t63⟩, hg58, h⟩ := of_bind h
      dsimp only at h
      have h54 := h47.release 5 rfl
      refine RegI.op (by kernel_rfl) (OpE.call 34 (by kernel_rfl) 16 #[.slice A50 t49.length c51] (by kernel_rfl) ((charabancref26_Ack_16_ok K _ w45  A50 c51 t49 h54.old' (h54.get 5 rfl) hg58).mono ?_))
      rintro _ w55 ⟨A60, c61, rfl, hr64⟩
      refine ⟨_, rfl, ?_⟩
      have hb56 := hr64.below
      have h57 := h54.join hr64
      refine RegI.pure 5 [0, 4, 5, 6, 7, 8, 9] [(0, .slice pA0 p0.length pc0), (4, .slice A13 t12.length c14), (5, .slice A31 t30.length c32), (6, .slice A40 t39.length c41), (7, .int .i64 t43), (8, .slice A60 t59.length c61), (9, .int .i64 t63)] (by kernel_rfl) ?_
      refine RegI.done (by kernel_rfl) ?_
      refine RunsI.go 1 [.c 29, .c 30] (by kernel_rfl) ?_
      refine RunsI.region (by kernel_rfl) ?_
      refine RegI.pure 1 [0, 4, 5, 6, 7, 8, 9, 38] [(0, .slice pA0 p0.length pc0), (4, .slice A13 t12.length c14), (5, .slice A31 t30.length c32), (6, .slice A40 t39.length c41), (7, .int .i64 t43), (8, .slice A60 t59.length c61), (9, .int .i64 t63), (38, .slice pA0 p0.length pc0)] (by kernel_rfl) ?_
      obtain ⟨⟨t69, t73⟩, hg68, h⟩ := of_bind h
      dsimp only at h
      refine RegI.op (by kernel_rfl) (OpE.call 39 (by kernel_rfl) 17 #[.slice pA0 p0.length pc0] (by kernel_rfl) ((chain_Reti_17_ok K _ w55  pA0 pc0 p0 h57.old' (h57.get 0 rfl) hg68).mono ?_))
      rintro _ w65 ⟨A70, c71, rfl, hr74⟩
      refine ⟨_, rfl, ?_⟩
      have hb66 := hr74.below
      have h67 := h57.join hr74
      refine RegI.pure 5 [0, 4, 5, 6, 7, 8, 9, 10, 11] [(0, .slice pA0 p0.length pc0), (4, .slice A13 t12.length c14), (5, .slice A31 t30.length c32), (6, .slice A40 t39.length c41), (7, .int .i64 t43), (8, .slice A60 t59.length c61), (9, .int .i64 t63), (10, .slice A70 t69.length c71), (11, .int .i64 t73)] (by kernel_rfl) ?_
      refine RegI.done (by kernel_rfl) ?_
      refine RunsI.go 1 [.c 31, .c 32] (by kernel_rfl) ?_
      refine RunsI.region (by kernel_rfl) ?_
      refine RegI.pure 1 [0, 4, 5, 6, 7, 8, 9, 10, 11, 43] [(0, .slice pA0 p0.length pc0), (4, .slice A13 t12.length c14), (5, .slice A31 t30.length c32), (6, .slice A40 t39.length c41), (7, .int .i64 t43), (8, .slice A60 t59.length c61), (9, .int .i64 t63), (10, .slice A70 t69.length c71), (11, .int .i64 t73), (43, .slice pA0 p0.length pc0)] (by kernel_rfl) ?_
      obtain ⟨t79, hg78, h⟩ := of_bind h
      refine RegI.op (by kernel_rfl) (OpE.call 44 (by kernel_rfl) 14 #[.slice pA0 p0.length pc0] (by kernel_rfl) ((charabanclaw26_plain_14_ok K _ w65  pA0 pc0 p0 h67.old' (h67.get 0 rfl) hg78).mono ?_))
      rintro _ w75 ⟨A80, c81, rfl, hr83⟩
      refine ⟨_, rfl, ?_⟩
      have hb76 := hr83.below
      have h77 := h67.join hr83
      obtain ⟨⟨t89, t93⟩, hg88, h⟩ := of_bind h
      dsimp only at h
      have h84 := h77.release 8 rfl
      refine RegI.op (by kernel_rfl) (OpE.call 45 (by kernel_rfl) 18 #[.slice A80 t79.length c81] (by kernel_rfl) ((charabancref26_Reti_18_ok K _ w75  A80 c81 t79 h84.old' (h84.get 8 rfl) hg88).mono ?_))
      rintro _ w85 ⟨A90, c91, rfl, hr94⟩
      refine ⟨_, rfl, ?_⟩
      have hb86 := hr94.below
      have h87 := h84.join hr94
      refine RegI.pure 5 [0, 4, 5, 6, 7, 8, 9, 10, 11, 12, 13] [(0, .slice pA0 p0.length pc0), (4, .slice A13 t12.length c14), (5, .slice A31 t30.length c32), (6, .slice A40 t39.length c41), (7, .int .i64 t43), (8, .slice A60 t59.length c61), (9, .int .i64 t63), (10, .slice A70 t69.length c71), (11, .int .i64 t73), (12, .slice A90 t89.length c91), (13, .int .i64 t93)] (by kernel_rfl) ?_
      refine RegI.done (by kernel_rfl) ?_
      refine RunsI.go 2 [.c 34, .c 35, .c 40] (by kernel_rfl) ?_
      refine RunsI.region (by kernel_rfl) ?_
      refine RegI.pure 6 [0, 4, 5, 6, 7, 8, 9, 10, 11, 12, 13, 53] [(0, .slice pA0 p0.length pc0), (4, .slice A13 t12.length c14), (5, .slice A31 t30.length c32), (6, .slice A40 t39.length c41), (7, .int .i64 t43), (8, .slice A60 t59.length c61), (9, .int .i64 t63), (10, .slice A70 t69.length c71), (11, .int .i64 t73), (12, .slice A90 t89.length c91), (13, .int .i64 t93), (53, .bool ((t12.length : Int) != (t30.length : Int)))] (by kernel_rfl) ?_
      obtain ⟨j120, hJ121, h⟩ := of_let h
      have hj122 : ∀ (t117 : Bool) (w119 : World), j120 t117 = some r → Holds M0 w0 w119 [own Rp.bool 4 (.slice A13 t12.length c14) t12, own Rp.bool 4 (.slice A31 t30.length c32) t30, own (Rp.pair Rp.bool Rp.bool) 49 (.slice A40 t39.length c41) t39, sl (Rp.pair Rp.bool Rp.bool) (.slice A60 t59.length c61) t59, own (Rp.pair Rp.bool Rp.bool) 49 (.slice A70 t69.length c71) t69, sl (Rp.pair Rp.bool Rp.bool) (.slice A90 t89.length c91) t89] → RegI F3 34 [.c 35, .c 40] 23 [(4, .slice A13 t12.length c14), (5, .slice A31 t30.length c32), (6, .slice A40 t39.length c41), (8, .slice A60 t59.length c61), (10, .slice A70 t69.length c71), (12, .slice A90 t89.length c91), (70, .bool t117)] w119 (charabanclaw26_ChainTells_3.post M0 w0 r) := by
        intro t117 w119 h h118
        rw [hJ121] at h
        clear hJ121
        dsimp only at h
        refine RegI.done (by kernel_rfl) ?_
        rcases of_cond h with ⟨hc123, h⟩ | ⟨hc123, h⟩
        · skip
          refine RunsI.fix 70 true hc123 (by kernel_rfl) (by kernel_rfl) ?_
          refine RunsI.cond true 36 (by kernel_rfl) ?_
          refine RunsI.go 1 [.c 37, .c 38, .c 40] (by kernel_rfl) ?_
          refine RunsI.region (by kernel_rfl) ?_
          refine RegI.pure 1 [2] [(2, .bool false)] (by kernel_rfl) ?_
          refine RegI.done (by kernel_rfl) ?_
          refine RunsI.ret (.bool false) (by kernel_rfl) (by kernel_rfl) ?_
          obtain rfl := Option.some.inj h
          exact ⟨rfl, h118.below⟩
        · skip
          refine RunsI.fix 70 false hc123 (by kernel_rfl) (by kernel_rfl) ?_
          refine RunsI.cond false 39 (by kernel_rfl) ?_
          refine RunsI.go 1 [.c 40] (by kernel_rfl) ?_
          refine RunsI.go 2 [.c 42, .c 43, .c 61] (by kernel_rfl) ?_
          refine RunsI.region (by kernel_rfl) ?_
          refine RegI.pure 1 [4, 5, 6, 8, 10, 12, 14] [(4, .slice A13 t12.length c14), (5, .slice A31 t30.length c32), (6, .slice A40 t39.length c41), (8, .slice A60 t59.length c61), (10, .slice A70 t69.length c71), (12, .slice A90 t89.length c91), (14, .int .i64 0)] (by kernel_rfl) ?_
          refine RegI.done (by kernel_rfl) ?_
          refine RunsI.go 2 [.c 45, .lp 45, .blk 0, .c 61] (by kernel_rfl) ?_
          obtain ⟨x156, hx157, h⟩ := of_bind h
          refine RunsI.only [4, 5, 6, 8, 10, 12, 14] [(4, .slice A13 t12.length c14), (5, .slice A31 t30.length c32), (6, .slice A40 t39.length c41), (8, .slice A60 t59.length c61), (10, .slice A70 t69.length c71), (12, .slice A90 t89.length c91), (14, .int .i64 0)] (by kernel_rfl) (by kernel_rfl) ?_
          refine charabanclaw26_ChainTells_3.l0_ok K M0 w0 pA0 pc0 p0 t12 t30 t39 t59 t69 t89 c14 c32 A40 c41 A60 c61 A70 c71 A90 c91 _ x156 ?_ ?_ K 0 A13 A31 w119 hx157 (h118.pick [0, 1, 2, 3, 4, 5] (by decide))
          · intro w159 hq191 h158
            (try rw [hq191] at h)
            dsimp only [Lp.elim] at h
            refine RunsI.go 1 [.c 62, .c 63] (by kernel_rfl) ?_
            refine RunsI.region (by kernel_rfl) ?_
            refine RegI.pure 1 [8, 10, 12, 86] [(8, .slice A60 t59.length c61), (10, .slice A70 t69.length c71), (12, .slice A90 t89.length c91), (86, .slice A40 t39.length c41)] (by kernel_rfl) ?_
            obtain ⟨t166, hg165, h⟩ := of_bind h
            refine RegI.op (by kernel_rfl) (OpE.call 87 (by kernel_rfl) 14 #[.slice A40 t39.length c41] (by kernel_rfl) ((charabanclaw26_plain_14_ok K (fun _ => False) w159  A40 c41 t39 (fun _ hf => hf.elim) (h158.ownSl 0 rfl) hg165).mono ?_))
            rintro _ w162 ⟨A167, c168, rfl, hr170⟩
            refine ⟨_, rfl, ?_⟩
            have hb163 := hr170.below
            have h164 := h158.join (hr170.anyM ⟨own_flat (fun _ _ _ _ _ h => h), trivial⟩ _ h158.old')
            refine RegI.pure 1 [10, 12, 87, 88] [(10, .slice A70 t69.length c71), (12, .slice A90 t89.length c91), (87, .slice A167 t166.length c168), (88, .slice A60 t59.length c61)] (by kernel_rfl) ?_
            obtain ⟨t175, hg174, h⟩ := of_bind h
            refine RegI.op (by kernel_rfl) (OpE.call 89 (by kernel_rfl) 21 #[.slice A167 t166.length c168, .slice A60 t59.length c61] (by kernel_rfl) ((charabancref26_Same_21_ok K (fun _ => False) w162  A167 c168 A60 c61 t166 t59 (fun _ hf => hf.elim) (h164.ownSl 4 rfl) (h164.slAny 1 rfl) hg174).mono ?_))
            rintro _ w171 ⟨rfl, hb172⟩
            refine ⟨_, rfl, ?_⟩
            have h173 := h164.call hb172
            refine RegI.pure 1 [10, 12, 90] [(10, .slice A70 t69.length c71), (12, .slice A90 t89.length c91), (90, .bool t175)] (by kernel_rfl) ?_
            rcases of_cond h with ⟨hc176, h⟩ | ⟨hc176, h⟩
            · skip
              refine RegI.fix 90 true hc176 (by kernel_rfl) (by kernel_rfl) ?_
              refine RegI.pure 1 [12, 90, 91] [(12, .slice A90 t89.length c91), (90, .bool true), (91, .slice A70 t69.length c71)] (by kernel_rfl) ?_
              obtain ⟨t181, hg180, h⟩ := of_bind h
              refine RegI.op (by kernel_rfl) (OpE.call 92 (by kernel_rfl) 14 #[.slice A70 t69.length c71] (by kernel_rfl) ((charabanclaw26_plain_14_ok K (fun _ => False) w171  A70 c71 t69 (fun _ hf => hf.elim) (h173.ownSl 2 rfl) hg180).mono ?_))
              rintro _ w177 ⟨A182, c183, rfl, hr185⟩
              refine ⟨_, rfl, ?_⟩
              have hb178 := hr185.below
              have h179 := h173.join (hr185.anyM ⟨own_flat (fun _ _ _ _ _ h => h), trivial⟩ _ h173.old')
              refine RegI.pure 1 [90, 92, 93] [(90, .bool true), (92, .slice A182 t181.length c183), (93, .slice A90 t89.length c91)] (by kernel_rfl) ?_
              obtain ⟨t190, hg189, h⟩ := of_bind h
              refine RegI.op (by kernel_rfl) (OpE.call 94 (by kernel_rfl) 21 #[.slice A182 t181.length c183, .slice A90 t89.length c91] (by kernel_rfl) ((charabancref26_Same_21_ok K (fun _ => False) w177  A182 c183 A90 c91 t181 t89 (fun _ hf => hf.elim) (h179.ownSl 5 rfl) (h179.slAny 3 rfl) hg189).mono ?_))
              rintro _ w186 ⟨rfl, hb187⟩
              refine ⟨_, rfl, ?_⟩
              have h188 := h179.call hb187
              refine RegI.pure 2 [2] [(2, .bool t190)] (by kernel_rfl) ?_
              refine RegI.done (by kernel_rfl) ?_
              refine RunsI.ret (.bool t190) (by kernel_rfl) (by kernel_rfl) ?_
              obtain rfl := Option.some.inj h
              exact ⟨rfl, h188.below⟩
            · skip
              refine RegI.fix 90 false hc176 (by kernel_rfl) (by kernel_rfl) ?_
              refine RegI.pure 6 [2] [(2, .bool false)] (by kernel_rfl) ?_
              refine RegI.done (by kernel_rfl) ?_
              refine RunsI.ret (.bool false) (by kernel_rfl) (by kernel_rfl) ?_
              obtain rfl := Option.some.inj h
              exact ⟨rfl, h173.below⟩
          · intro w161 hq192 h160
            (try rw [hq192] at h)
            dsimp only [Lp.elim] at h
            obtain rfl := Option.some.inj h
            exact ⟨rfl, h160.below⟩
      clear hJ121
      rcases of_cond h with ⟨hc95, h⟩ | ⟨hc95, h⟩
      · skip
        refine RegI.fix 53 true hc95 (by kernel_rfl) (by kernel_rfl) ?_
        refine RegI.pure 17 [4, 5, 6, 8, 10, 12, 70] [(4, .slice A13 t12.length c14), (5, .slice A31 t30.length c32), (6, .slice A40 t39.length c41), (8, .slice A60 t59.length c61), (10, .slice A70 t69.length c71), (12, .slice A90 t89.length c91), (70, .bool true)] (by kernel_rfl) ?_
        refine RegI.only [4, 5, 6, 8, 10, 12, 70] [(4, .slice A13 t12.length c14), (5, .slice A31 t30.length c32), (6, .slice A40 t39.length c41), (8, .slice A60 t59.length c61), (10, .slice A70 t69.length c71), (12, .slice A90 t89.length c91), (70, .bool true)] (by kernel_rfl) (by kernel_rfl) ?_
        exact hj122 true w85 h (h87.pick [1, 3, 4, 6, 7, 9] (by decide))
      · skip
        refine RegI.fix 53 false hc95 (by kernel_rfl) (by kernel_rfl) ?_
        refine RegI.pure 5 [0, 4, 5, 6, 8, 10, 11, 12, 13, 58] [(0, .slice pA0 p0.length pc0), (4, .slice A13 t12.length c14), (5, .slice A31 t30.length c32), (6, .slice A40 t39.length c41), (8, .slice A60 t59.length c61), (10, .slice A70 t69.length c71), (11, .int .i64 t73), (12, .slice A90 t89.length c91), (13, .int .i64 t93), (58, .bool (t43 != t63))] (by kernel_rfl) ?_
        rcases of_cond h with ⟨hc96, h⟩ | ⟨hc96, h⟩
        · skip
          refine RegI.fix 58 true hc96 (by kernel_rfl) (by kernel_rfl) ?_
          refine RegI.pure 12 [4, 5, 6, 8, 10, 12, 70] [(4, .slice A13 t12.length c14), (5, .slice A31 t30.length c32), (6, .slice A40 t39.length c41), (8, .slice A60 t59.length c61), (10, .slice A70 t69.length c71), (12, .slice A90 t89.length c91), (70, .bool true)] (by kernel_rfl) ?_
          refine RegI.only [4, 5, 6, 8, 10, 12, 70] [(4, .slice A13 t12.length c14), (5, .slice A31 t30.length c32), (6, .slice A40 t39.length c41), (8, .slice A60 t59.length c61), (10, .slice A70 t69.length c71), (12, .slice A90 t89.length c91), (70, .bool true)] (by kernel_rfl) (by kernel_rfl) ?_
          exact hj122 true w85 h (h87.pick [1, 3, 4, 6, 7, 9] (by decide))
        · skip
          refine RegI.fix 58 false hc96 (by kernel_rfl) (by kernel_rfl) ?_
          refine RegI.pure 5 [0, 4, 5, 6, 8, 10, 12, 63] [(0, .slice pA0 p0.length pc0), (4, .slice A13 t12.length c14), (5, .slice A31 t30.length c32), (6, .slice A40 t39.length c41), (8, .slice A60 t59.length c61), (10, .slice A70 t69.length c71), (12, .slice A90 t89.length c91), (63, .bool (t73 != t93))] (by kernel_rfl) ?_
          rcases of_cond h with ⟨hc97, h⟩ | ⟨hc97, h⟩
          · skip
            refine RegI.fix 63 true hc97 (by kernel_rfl) (by kernel_rfl) ?_
            refine RegI.pure 7 [4, 5, 6, 8, 10, 12, 70] [(4, .slice A13 t12.length c14), (5, .slice A31 t30.length c32), (6, .slice A40 t39.length c41), (8, .slice A60 t59.length c61), (10, .slice A70 t69.length c71), (12, .slice A90 t89.length c91), (70, .bool true)] (by kernel_rfl) ?_
            refine RegI.only [4, 5, 6, 8, 10, 12, 70] [(4, .slice A13 t12.length c14), (5, .slice A31 t30.length c32), (6, .slice A40 t39.length c41), (8, .slice A60 t59.length c61), (10, .slice A70 t69.length c71), (12, .slice A90 t89.length c91), (70, .bool true)] (by kernel_rfl) (by kernel_rfl) ?_
            exact hj122 true w85 h (h87.pick [1, 3, 4, 6, 7, 9] (by decide))
          · skip
            refine RegI.fix 63 false hc97 (by kernel_rfl) (by kernel_rfl) ?_
            refine RegI.pure 1 [0, 4, 5, 6, 8, 10, 12, 63, 64] [(0, .slice pA0 p0.length pc0), (4, .slice A13 t12.length c14), (5, .slice A31 t30.length c32), (6, .slice A40 t39.length c41), (8, .slice A60 t59.length c61), (10, .slice A70 t69.length c71), (12, .slice A90 t89.length c91), (63, .bool false), (64, .slice pA0 p0.length pc0)] (by kernel_rfl) ?_
            obtain ⟨t102, hg101, h⟩ := of_bind h
            refine RegI.op (by kernel_rfl) (OpE.call 65 (by kernel_rfl) 19 #[.slice pA0 p0.length pc0] (by kernel_rfl) ((chain_Grants_19_ok K _ w85  pA0 pc0 p0 h87.old' (h87.get 0 rfl) hg101).mono ?_))
            rintro _ w98 ⟨rfl, hb99⟩
            refine ⟨_, rfl, ?_⟩
            have h100 := h87.call hb99
            refine RegI.pure 1 [4, 5, 6, 8, 10, 12, 63, 65, 66] [(4, .slice A13 t12.length c14), (5, .slice A31 t30.length c32), (6, .slice A40 t39.length c41), (8, .slice A60 t59.length c61), (10, .slice A70 t69.length c71), (12, .slice A90 t89.length c91), (63, .bool false), (65, .int .i64 t102), (66, .slice pA0 p0.length pc0)] (by kernel_rfl) ?_
            obtain ⟨t107, hg106, h⟩ := of_bind h
            refine RegI.op (by kernel_rfl) (OpE.call 67 (by kernel_rfl) 14 #[.slice pA0 p0.length pc0] (by kernel_rfl) ((charabanclaw26_plain_14_ok K _ w98  pA0 pc0 p0 h100.old' (h100.get 0 rfl) hg106).mono ?_))
            rintro _ w103 ⟨A108, c109, rfl, hr111⟩
            refine ⟨_, rfl, ?_⟩
            have hb104 := hr111.below
            have h105 := h100.join hr111
            obtain ⟨t116, hg115, h⟩ := of_bind h
            refine RegI.op (by kernel_rfl) (OpE.call 68 (by kernel_rfl) 20 #[.slice A108 t107.length c109] (by kernel_rfl) ((charabancref26_Grants_20_ok K (fun _ => False) w103  A108 c109 t107 (fun _ hf => hf.elim) (h105.ownSl 10 rfl) hg115).mono ?_))
            rintro _ w112 ⟨rfl, hb113⟩
            refine ⟨_, rfl, ?_⟩
            have h114 := h105.call hb113
            refine RegI.pure 2 [4, 5, 6, 8, 10, 12, 70] [(4, .slice A13 t12.length c14), (5, .slice A31 t30.length c32), (6, .slice A40 t39.length c41), (8, .slice A60 t59.length c61), (10, .slice A70 t69.length c71), (12, .slice A90 t89.length c91), (70, .bool (t102 != t116))] (by kernel_rfl) ?_
            refine RegI.only [4, 5, 6, 8, 10, 12, 70] [(4, .slice A13 t12.length c14), (5, .slice A31 t30.length c32), (6, .slice A40 t39.length c41), (8, .slice A60 t59.length c61), (10, .slice A70 t69.length c71), (12, .slice A90 t89.length c91), (70, .bool (t102 != t116))] (by kernel_rfl) (by kernel_rfl) ?_
            exact hj122 (t102 != t116) w112 h (h114.pick [1, 3, 4, 6, 7, 9] (by decide))
end
end Go.Proofs.Ytngcadmhnbpgjaa.Chain
