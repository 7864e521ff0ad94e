/- Functions of the program as plain Lean functions, each with the proof that the call comes to it; written by wip/eng.py. -/
import Derived.Test.YtmcdkmakjjlcnaaDec
set_option linter.unusedVariables false
set_option linter.unusedSimpArgs false
set_option maxHeartbeats 4000000
namespace Go.Proofs.Ytmcdkmakjjlcnaa.Dec
open Go.RowKit Go.Eng
/-! ### charabanc/decode.All (function 17) -/
section
def decode_All_17.post (M0 : Nat → Prop) (w0 : World) (r : (List (Int × Int × Int × Int × Int × Int)) × Int) : Ending → World → Prop := fun e w => ∃ (A1 : Option Addr) (c1 : Nat), e = .returned (.tuple #[.slice A1 r.1.length c1, .int .i64 r.2]) ∧ Holds M0 w0 w [own (Rp.pair (Rp.int .i64) (Rp.pair (Rp.int .u8) (Rp.pair (Rp.int .u8) (Rp.pair (Rp.int .u16) (Rp.pair (Rp.int .i64) (Rp.int .i64)))))) 30 (.slice A1 r.1.length c1) r.1]
def decode_All_17.l0 (K : Nat) (p0 : List Int) : Nat → (List (Int × Int × Int × Int × Int × Int)) → Int → (List Int) → Option ((List (Int × Int × Int × Int × Int × Int)) × Int × (List Int))
  | 0, _, _, _ => none
  | k + 1, t31, t33, t37 => (decode_Next_15.f K t37).bind fun yt43 => Let (fun (yj97 : (List (Int × Int × Int × Int × Int × Int)) × Int × Bool) => cond yj97.2.2 (some (yj97.1, yj97.2.1, t37)) (cond (cutR yt43.2.2.2.2.1 (t37.length : Int) t37.length) (decode_All_17.l0 K p0 k yj97.1 yj97.2.1 (cutL t37 yt43.2.2.2.2.1 (t37.length : Int))) none)) (fun j97 => cond (!yt43.2.2.2.2.2.2) (j97 (t31, t33, true)) (cond (mayBe (t31.length + ([(yt43.1, yt43.2.1, yt43.2.2.1, yt43.2.2.2.1, yt43.2.2.2.2.1, yt43.2.2.2.2.2.1)] : List (Int × Int × Int × Int × Int × Int)).length) 32) (j97 ((t31 ++ ([(yt43.1, yt43.2.1, yt43.2.2.1, yt43.2.2.2.1, yt43.2.2.2.2.1, yt43.2.2.2.2.2.1)] : List (Int × Int × Int × Int × Int × Int))), (IntKind.wrap .i64 (t33 - yt43.2.2.2.2.1)), false)) none))
set_option maxRecDepth 100000 in
theorem decode_All_17.l0_ok (K : Nat) (M0 : Nat → Prop) (w0 : World) (pA0 : Option Addr) (pc0 : Nat) (p0 : List Int) (b27 : Nat) (b28 : Nat) (b32 : Nat) (b34 : Nat) (b38 : Nat) (R : Ending → World → Prop) (x : (List (Int × Int × Int × Int × Int × Int)) × Int × (List Int)) (hk0 : ∀ (t110 : List (Int × Int × Int × Int × Int × Int)) (t111 : Int) (t114 : List Int) (A108 : Option Addr) (c109 : Nat) (A112 : Option Addr) (c113 : Nat) (w1 : World), x = (t110, t111, t114) → Holds M0 w0 w1 [box b28 33 [.slice A108 t110.length c109], own (Rp.pair (Rp.int .i64) (Rp.pair (Rp.int .u8) (Rp.pair (Rp.int .u8) (Rp.pair (Rp.int .u16) (Rp.pair (Rp.int .i64) (Rp.int .i64)))))) 30 (.slice A108 t110.length c109) t110, box b32 3 [.int .i64 t111], rng F17 10 b27 [(4, .pointer (some ⟨b28, 0, none⟩)), (5, .pointer (some ⟨b32, 0, none⟩)), (10, .func (.func 38) #[] #[.pointer (some ⟨b34, 0, none⟩)])] .ready none, box b34 27 [.slice A112 t114.length c113], sl (Rp.int .u8) (.slice A112 t114.length c113) t114, dfr b38] → R (.returned (.tuple #[])) w1) :
    ∀ (k : Nat) (t31 : List (Int × Int × Int × Int × Int × Int)) (t33 : Int) (t37 : List Int) (A29 : Option Addr) (c30 : Nat) (A35 : Option Addr) (c36 : Nat) (w : World), decode_All_17.l0 K p0 k t31 t33 t37 = some x → Holds M0 w0 w [rng F17 10 b27 [(4, .pointer (some ⟨b28, 0, none⟩)), (5, .pointer (some ⟨b32, 0, none⟩)), (10, .func (.func 38) #[] #[.pointer (some ⟨b34, 0, none⟩)])] .ready none, box b28 33 [.slice A29 t31.length c30], own (Rp.pair (Rp.int .i64) (Rp.pair (Rp.int .u8) (Rp.pair (Rp.int .u8) (Rp.pair (Rp.int .u16) (Rp.pair (Rp.int .i64) (Rp.int .i64)))))) 30 (.slice A29 t31.length c30) t31, box b32 3 [.int .i64 t33], box b34 27 [.slice A35 t37.length c36], sl (Rp.int .u8) (.slice A35 t37.length c36) t37, dfr b38] → RunsI F38 [.c 2, .lp 2, .blk 0] [(0, .func (.yield b27) #[] #[]), (1, .pointer (some ⟨b34, 0, none⟩))] w R := by
  intro k
  induction k with
  | zero => intro t31 t33 t37 A29 c30 A35 c36 w h hH; exact absurd h (by simp [decode_All_17.l0])
  | succ k ih =>
    intro t31 t33 t37 A29 c30 A35 c36 w h hH
    rw [decode_All_17.l0.eq_2] at h
    refine RunsI.go 1 [.c 3, .blk 1, .lp 2, .blk 0] (by kernel_rfl) ?_
    refine RunsI.go 1 [.c 4, .c 5, .blk 1, .lp 2, .blk 0] (by kernel_rfl) ?_
    refine RunsI.region (by kernel_rfl) ?_
    refine RegI.op (by kernel_rfl) (OpE.loadBox 6 4 27 b34 0 (.slice A35 t37.length c36) hH (by kernel_rfl) (by kernel_rfl) rfl (by kernel_rfl) ?_)
    obtain ⟨⟨t43, t44, t45, t46, t47, t48, t49⟩, hg42, h⟩ := of_bind h
    dsimp only at h
    refine RegI.op (by kernel_rfl) (OpE.call 7 (by kernel_rfl) 15 #[.slice A35 t37.length c36] (by kernel_rfl) ((decode_Next_15_ok K _ w  A35 c36 t37 hH.old' (hH.get 5 rfl) hg42).mono ?_))
    rintro _ w39 ⟨rfl, hb40⟩
    refine ⟨_, rfl, ?_⟩
    have h41 := hH.call hb40
    refine RegI.pure 3 [0, 1, 8, 9] [(0, .func (.yield b27) #[] #[]), (1, .pointer (some ⟨b34, 0, none⟩)), (8, .agg #[.int .i64 t43, .int .u8 t44, .int .u8 t45, .int .u16 t46, .int .i64 t47, .int .i64 t48]), (9, .bool t49)] (by kernel_rfl) ?_
    refine RegI.op (by kernel_rfl) (OpE.box 3 30 [.int .i64 0, .int .u8 0, .int .u8 0, .int .u16 0, .int .i64 0, .int .i64 0] h41 (by kernel_rfl) (by kernel_rfl) ?_)
    intro w50 b51 h52 hb53 hn54
    refine RegI.op (by kernel_rfl) (OpE.storeBox 7 30 b51 0 (.agg #[.int .i64 t43, .int .u8 t44, .int .u8 t45, .int .u16 t46, .int .i64 t47, .int .i64 t48]) [.int .i64 t43, .int .u8 t44, .int .u8 t45, .int .u16 t46, .int .i64 t47, .int .i64 t48] h52 (by kernel_rfl) (by kernel_rfl) rfl (by kernel_rfl) (by kernel_rfl) (by kernel_rfl) ?_)
    intro w55 h56 hk57
    refine RegI.pure 1 [0, 1, 3, 4] [(0, .func (.yield b27) #[] #[]), (1, .pointer (some ⟨b34, 0, none⟩)), (3, .pointer (some ⟨b51, 0, none⟩)), (4, .bool t49)] (by kernel_rfl) ?_
    refine RegI.done (by kernel_rfl) ?_
    refine RunsI.go 2 [.c 7, .c 8, .c 11, .blk 1, .lp 2, .blk 0] (by kernel_rfl) ?_
    refine RunsI.region (by kernel_rfl) ?_
    refine RegI.pure 3 [0, 1, 3, 12] [(0, .func (.yield b27) #[] #[]), (1, .pointer (some ⟨b34, 0, none⟩)), (3, .pointer (some ⟨b51, 0, none⟩)), (12, .bool (!t49))] (by kernel_rfl) ?_
    obtain ⟨j97, hJ98, h⟩ := of_let h
    have hj99 : ∀ (t92 : List (Int × Int × Int × Int × Int × Int)) (t93 : Int) (t94 : Bool) (A90 : Option Addr) (c91 : Nat) (w96 : World), j97 (t92, t93, t94) = some x → Holds M0 w0 w96 [rng F17 10 b27 [(4, .pointer (some ⟨b28, 0, none⟩)), (5, .pointer (some ⟨b32, 0, none⟩)), (10, .func (.func 38) #[] #[.pointer (some ⟨b34, 0, none⟩)])] .ready none, box b28 33 [.slice A90 t92.length c91], own (Rp.pair (Rp.int .i64) (Rp.pair (Rp.int .u8) (Rp.pair (Rp.int .u8) (Rp.pair (Rp.int .u16) (Rp.pair (Rp.int .i64) (Rp.int .i64)))))) 30 (.slice A90 t92.length c91) t92, box b32 3 [.int .i64 t93], box b34 27 [.slice A35 t37.length c36], sl (Rp.int .u8) (.slice A35 t37.length c36) t37, box b51 30 [.int .i64 t43, .int .u8 t44, .int .u8 t45, .int .u16 t46, .int .i64 t47, .int .i64 t48], dfr b38] → RegI F38 7 [.c 8, .c 11, .blk 1, .lp 2, .blk 0] 8 [(0, .func (.yield b27) #[] #[]), (1, .pointer (some ⟨b34, 0, none⟩)), (3, .pointer (some ⟨b51, 0, none⟩)), (17, .bool t94)] w96 R := by
      intro t92 t93 t94 A90 c91 w96 h h95
      rw [hJ98] at h
      clear hJ98
      dsimp only at h
      refine RegI.done (by kernel_rfl) ?_
      rcases of_cond h with ⟨hc100, h⟩ | ⟨hc100, h⟩
      · skip
        refine RunsI.fix 17 true hc100 (by kernel_rfl) (by kernel_rfl) ?_
        refine RunsI.cond true 9 (by kernel_rfl) ?_
        refine RunsI.ret (.tuple #[]) (by kernel_rfl) (by kernel_rfl) ?_
        exact hk0 t92 t93 t37 A90 c91 A35 c36 w96 (Option.some.inj h).symm (h95.pick [1, 2, 3, 0, 4, 5, 7] (by decide))
      · skip
        refine RunsI.fix 17 false hc100 (by kernel_rfl) (by kernel_rfl) ?_
        refine RunsI.cond false 10 (by kernel_rfl) ?_
        refine RunsI.go 1 [.c 11, .blk 1, .lp 2, .blk 0] (by kernel_rfl) ?_
        refine RunsI.region (by kernel_rfl) ?_
        refine RegI.op (by kernel_rfl) (OpE.loadBox 18 4 27 b34 0 (.slice A35 t37.length c36) h95 (by kernel_rfl) (by kernel_rfl) rfl (by kernel_rfl) ?_)
        refine RegI.pure 1 [0, 1, 18, 19] [(0, .func (.yield b27) #[] #[]), (1, .pointer (some ⟨b34, 0, none⟩)), (18, .slice A35 t37.length c36), (19, .pointer (some ⟨b51, 4, none⟩))] (by kernel_rfl) ?_
        refine RegI.op (by kernel_rfl) (OpE.loadBox 20 6 3 b51 4 (.int .i64 t47) h95 (by kernel_rfl) (by kernel_rfl) rfl (by kernel_rfl) ?_)
        obtain ⟨hc101, h⟩ := of_cond0 h
        refine RegI.op (by kernel_rfl) (OpE.cutSl 21 5 27 (some t47) none h95 (by kernel_rfl) rfl (by kernel_rfl) (by kernel_rfl) hc101 ?_)
        intro A102 c103 h104
        refine RegI.op (by kernel_rfl) (OpE.storeBox 4 27 b34 0 (.slice A102 ((cutL t37 t47 (t37.length : Int)).length) c103) [.slice A102 ((cutL t37 t47 (t37.length : Int)).length) c103] h104 (by kernel_rfl) (by kernel_rfl) rfl (by kernel_rfl) (by kernel_rfl) (by kernel_rfl) ?_)
        intro w105 h106 hk107
        refine RegI.done (by kernel_rfl) ?_
        refine RunsI.go 2 [.c 2, .lp 2, .blk 0] (by kernel_rfl) ?_
        refine RunsI.only [0, 1] [(0, .func (.yield b27) #[] #[]), (1, .pointer (some ⟨b34, 0, none⟩))] (by kernel_rfl) (by kernel_rfl) ?_
        exact ih t92 t93 (cutL t37 t47 (t37.length : Int)) A90 c91 A102 c103 w105 h (h106.pick [0, 1, 2, 3, 4, 8, 7] (by decide))
    clear hJ98
    rcases of_cond h with ⟨hc58, h⟩ | ⟨hc58, h⟩
    · skip
      refine RegI.fix 12 true hc58 (by kernel_rfl) (by kernel_rfl) ?_
      refine RegI.pure 5 [0, 1, 3, 13, 14, 15, 16, 17] [(0, .func (.yield b27) #[] #[]), (1, .pointer (some ⟨b34, 0, none⟩)), (3, .pointer (some ⟨b51, 0, none⟩)), (13, undef), (14, undef), (15, undef), (16, undef), (17, .bool true)] (by kernel_rfl) ?_
      refine RegI.only [0, 1, 3, 17] [(0, .func (.yield b27) #[] #[]), (1, .pointer (some ⟨b34, 0, none⟩)), (3, .pointer (some ⟨b51, 0, none⟩)), (17, .bool true)] (by kernel_rfl) (by kernel_rfl) ?_
      exact hj99 t31 t33 true A29 c30 w55 h (h56.pick [0, 1, 2, 3, 4, 5, 7, 6] (by decide))
    · skip
      refine RegI.fix 12 false hc58 (by kernel_rfl) (by kernel_rfl) ?_
      refine RegI.pure 1 [0, 1, 3, 12, 13] [(0, .func (.yield b27) #[] #[]), (1, .pointer (some ⟨b34, 0, none⟩)), (3, .pointer (some ⟨b51, 0, none⟩)), (12, .bool false), (13, .func (.yield b27) #[] #[])] (by kernel_rfl) ?_
      refine RegI.op (by kernel_rfl) (OpE.loadBox 14 7 30 b51 0 (.agg #[.int .i64 t43, .int .u8 t44, .int .u8 t45, .int .u16 t46, .int .i64 t47, .int .i64 t48]) h56 (by kernel_rfl) (by kernel_rfl) rfl (by kernel_rfl) ?_)
      refine RegI.yield 15 b27 10 0 [.agg #[.int .i64 t43, .int .u8 t44, .int .u8 t45, .int .u16 t46, .int .i64 t47, .int .i64 t48]] [0, 1, 3, 12, 13, 14] [(0, .func (.yield b27) #[] #[]), (1, .pointer (some ⟨b34, 0, none⟩)), (3, .pointer (some ⟨b51, 0, none⟩)), (12, .bool false), (13, .func (.yield b27) #[] #[]), (14, .agg #[.int .i64 t43, .int .u8 t44, .int .u8 t45, .int .u16 t46, .int .i64 t47, .int .i64 t48])] h56 (by kernel_rfl) (by kernel_rfl) (by kernel_rfl) (by kernel_rfl) rfl (by kernel_rfl) (by kernel_rfl) (by kernel_rfl) [.c 11, .bg, .c 12] (by kernel_rfl) [(11, .agg #[.int .i64 t43, .int .u8 t44, .int .u8 t45, .int .u16 t46, .int .i64 t47, .int .i64 t48]), (4, .pointer (some ⟨b28, 0, none⟩)), (5, .pointer (some ⟨b32, 0, none⟩)), (10, .func (.func 38) #[] #[.pointer (some ⟨b34, 0, none⟩)])] (by kernel_rfl) ?_
      refine RunsI.only [4, 5, 11] [(4, .pointer (some ⟨b28, 0, none⟩)), (5, .pointer (some ⟨b32, 0, none⟩)), (11, .agg #[.int .i64 t43, .int .u8 t44, .int .u8 t45, .int .u16 t46, .int .i64 t47, .int .i64 t48])] (by kernel_rfl) (by kernel_rfl) ?_
      refine RunsI.region (by kernel_rfl) ?_
      refine RegI.op (by kernel_rfl) (OpE.box 6 30 [.int .i64 0, .int .u8 0, .int .u8 0, .int .u16 0, .int .i64 0, .int .i64 0] h56 (by kernel_rfl) (by kernel_rfl) ?_)
      intro w59 b60 h61 hb62 hn63
      refine RegI.op (by kernel_rfl) (OpE.storeBox 8 30 b60 0 (.agg #[.int .i64 t43, .int .u8 t44, .int .u8 t45, .int .u16 t46, .int .i64 t47, .int .i64 t48]) [.int .i64 t43, .int .u8 t44, .int .u8 t45, .int .u16 t46, .int .i64 t47, .int .i64 t48] h61 (by kernel_rfl) (by kernel_rfl) rfl (by kernel_rfl) (by kernel_rfl) (by kernel_rfl) ?_)
      intro w64 h65 hk66
      refine RegI.done (by kernel_rfl) ?_
      refine RunsI.begin 0 h65 rfl rfl ?_
      intro w67 h68 hk69
      refine RunsI.go 2 [.c 14, .c 15, .blk 1] (by kernel_rfl) ?_
      refine RunsI.region (by kernel_rfl) ?_
      refine RegI.op (by kernel_rfl) (OpE.loadBox 12 1 33 b28 0 (.slice A29 t31.length c30) h68 (by kernel_rfl) (by kernel_rfl) rfl (by kernel_rfl) ?_)
      refine RegI.op (by kernel_rfl) (OpE.loadBox 13 8 30 b60 0 (.agg #[.int .i64 t43, .int .u8 t44, .int .u8 t45, .int .u16 t46, .int .i64 t47, .int .i64 t48]) h68 (by kernel_rfl) (by kernel_rfl) rfl (by kernel_rfl) ?_)
      refine RegI.op (by kernel_rfl) (OpE.lit 14 30 [.int .i64 t43, .int .u8 t44, .int .u8 t45, .int .u16 t46, .int .i64 t47, .int .i64 t48] 1 h68 (by kernel_rfl) (by kernel_rfl) ?_)
      intro w70 b71 h72 hb73 hn74
      obtain ⟨hc75, h⟩ := of_cond0 h
      refine RegI.op (by kernel_rfl) (OpE.appendBox 15 2 9 33 30 32 ([(t43, t44, t45, t46, t47, t48)] : List (Int × Int × Int × Int × Int × Int)) 0 h72 (by kernel_rfl) (by kernel_rfl) (by kernel_rfl) rfl rfl rfl (⟨[_, _, _, _, _, _], _, rfl, ⟨[_], [_, _, _, _, _], rfl, rfl, ⟨[_], [_, _, _, _], rfl, rfl, ⟨[_], [_, _, _], rfl, rfl, ⟨[_], [_, _], rfl, rfl, ⟨[_], [_], rfl, rfl, rfl⟩⟩⟩⟩⟩, rfl⟩) hc75 ?_)
      intro w76 A77 c78 h79 hk80
      refine RegI.op (by kernel_rfl) (OpE.storeBox 1 33 b28 0 (.slice A77 ((t31 ++ ([(t43, t44, t45, t46, t47, t48)] : List (Int × Int × Int × Int × Int × Int))).length) c78) [.slice A77 ((t31 ++ ([(t43, t44, t45, t46, t47, t48)] : List (Int × Int × Int × Int × Int × Int))).length) c78] h79 (by kernel_rfl) (by kernel_rfl) rfl (by kernel_rfl) (by kernel_rfl) (by kernel_rfl) ?_)
      intro w81 h82 hk83
      refine RegI.done (by kernel_rfl) ?_
      refine RunsI.region (by kernel_rfl) ?_
      refine RegI.op (by kernel_rfl) (OpE.loadBox 16 3 3 b32 0 (.int .i64 t33) h82 (by kernel_rfl) (by kernel_rfl) rfl (by kernel_rfl) ?_)
      refine RegI.pure 1 [5, 16, 17] [(5, .pointer (some ⟨b32, 0, none⟩)), (16, .int .i64 t33), (17, .pointer (some ⟨b60, 4, none⟩))] (by kernel_rfl) ?_
      refine RegI.op (by kernel_rfl) (OpE.loadBox 18 8 3 b60 4 (.int .i64 t47) h82 (by kernel_rfl) (by kernel_rfl) rfl (by kernel_rfl) ?_)
      refine RegI.pure 1 [5, 19] [(5, .pointer (some ⟨b32, 0, none⟩)), (19, .int .i64 (IntKind.wrap .i64 (t33 - t47)))] (by kernel_rfl) ?_
      refine RegI.op (by kernel_rfl) (OpE.storeBox 3 3 b32 0 (.int .i64 (IntKind.wrap .i64 (t33 - t47))) [.int .i64 (IntKind.wrap .i64 (t33 - t47))] h82 (by kernel_rfl) (by kernel_rfl) rfl (by kernel_rfl) (by kernel_rfl) (by kernel_rfl) ?_)
      intro w84 h85 hk86
      refine RegI.done (by kernel_rfl) ?_
      refine RunsI.go 1 [] (by kernel_rfl) ?_
      refine RunsI.roundEnd 0 h85 rfl rfl ?_
      intro w87 h88 hk89
      refine cont_mk ?_
      refine RegI.pure 2 [0, 1, 3, 13, 14, 15, 16, 17] [(0, .func (.yield b27) #[] #[]), (1, .pointer (some ⟨b34, 0, none⟩)), (3, .pointer (some ⟨b51, 0, none⟩)), (13, .func (.yield b27) #[] #[]), (14, .agg #[.int .i64 t43, .int .u8 t44, .int .u8 t45, .int .u16 t46, .int .i64 t47, .int .i64 t48]), (15, .bool true), (16, .bool false), (17, .bool false)] (by kernel_rfl) ?_
      refine RegI.only [0, 1, 3, 17] [(0, .func (.yield b27) #[] #[]), (1, .pointer (some ⟨b34, 0, none⟩)), (3, .pointer (some ⟨b51, 0, none⟩)), (17, .bool false)] (by kernel_rfl) (by kernel_rfl) ?_
      exact hj99 (t31 ++ ([(t43, t44, t45, t46, t47, t48)] : List (Int × Int × Int × Int × Int × Int))) (IntKind.wrap .i64 (t33 - t47)) false A77 c78 w87 h (h88.pick [0, 1, 2, 3, 4, 5, 7, 6] (by decide))
def decode_All_17.f (K : Nat) (p0 : List Int) : Option ((List (Int × Int × Int × Int × Int × Int)) × Int) := (decode_All_17.l0 K p0 K ([] : List (Int × Int × Int × Int × Int × Int)) (p0.length : Int) p0).bind (fun yx115 => some (yx115.1, yx115.2.1))
set_option maxRecDepth 100000 in
theorem decode_All_17_ok (K : Nat) (M0 : Nat → Prop) (w0 : World) (pA0 : Option Addr) (pc0 : Nat) (p0 : List Int) (ho : ∀ b, M0 b → b < w0.heap.size) (hs0 : Sl (Rp.int .u8) w0 M0 (.slice pA0 p0.length pc0) p0) {r : (List (Int × Int × Int × Int × Int × Int)) × Int} (h : decode_All_17.f K p0 = some r) :
    Calls Try.prog 17 #[.slice pA0 p0.length pc0] w0 (decode_All_17.post M0 w0 r) := by
  unfold decode_All_17.f at h
  have h0 : Holds M0 w0 w0 [] := Holds.start ho
  have h00 := h0.addSl (Rp.int .u8) (.slice pA0 p0.length pc0) p0 (hs0.mono (fun _ _ hm => hm.elim id (fun hm => absurd hm (by simp [mines, sl]))))
  have h0 : Holds M0 w0 w0 [sl (Rp.int .u8) (.slice pA0 p0.length pc0) p0] := h00
  refine calls_of F17 rfl [.slice pA0 p0.length pc0] (by kernel_rfl) ?_
  refine RunsI.go 1 [.c 1, .c 2] (by kernel_rfl) ?_
  refine RunsI.region (by kernel_rfl) ?_
  refine RegI.pure 2 [0] [(0, .slice pA0 p0.length pc0)] (by kernel_rfl) ?_
  refine RegI.done (by kernel_rfl) ?_
  refine RunsI.go 1 [.c 3, .c 4] (by kernel_rfl) ?_
  refine RunsI.region (by kernel_rfl) ?_
  refine RegI.op (by kernel_rfl) (OpE.box 4 33 [.slice none 0 0] h0 (by kernel_rfl) (by kernel_rfl) ?_)
  intro w1 b2 h3 hb4 hn5
  refine RegI.done (by kernel_rfl) ?_
  refine RunsI.go 1 [.c 5, .c 6] (by kernel_rfl) ?_
  refine RunsI.region (by kernel_rfl) ?_
  refine RegI.pure 2 [0, 4, 8] [(0, .slice pA0 p0.length pc0), (4, .pointer (some ⟨b2, 0, none⟩)), (8, .int .i64 (p0.length : Int))] (by kernel_rfl) ?_
  refine RegI.op (by kernel_rfl) (OpE.box 5 3 [.int .i64 0] h3 (by kernel_rfl) (by kernel_rfl) ?_)
  intro w6 b7 h8 hb9 hn10
  refine RegI.op (by kernel_rfl) (OpE.storeBox 2 3 b7 0 (.int .i64 (p0.length : Int)) [.int .i64 (p0.length : Int)] h8 (by kernel_rfl) (by kernel_rfl) rfl (by kernel_rfl) (by kernel_rfl) (by kernel_rfl) ?_)
  intro w11 h12 hk13
  refine RegI.done (by kernel_rfl) ?_
  refine RunsI.go 2 [.c 8, .c 9, .c 16] (by kernel_rfl) ?_
  refine RunsI.region (by kernel_rfl) ?_
  refine RegI.pure 1 [4, 5, 9] [(4, .pointer (some ⟨b2, 0, none⟩)), (5, .pointer (some ⟨b7, 0, none⟩)), (9, .slice pA0 p0.length pc0)] (by kernel_rfl) ?_
  refine RegI.enter 10 [4, 5] [(4, .pointer (some ⟨b2, 0, none⟩)), (5, .pointer (some ⟨b7, 0, none⟩))] (by kernel_rfl) (by kernel_rfl) (by kernel_rfl) (by kernel_rfl) F32 32 rfl [.slice pA0 p0.length pc0] (by kernel_rfl) (by kernel_rfl) ?_
  refine RunsI.go 1 [.c 1, .c 2] (by kernel_rfl) ?_
  refine RunsI.region (by kernel_rfl) ?_
  refine RegI.op (by kernel_rfl) (OpE.box 1 27 [.slice pA0 p0.length pc0] h12 (by kernel_rfl) (by kernel_rfl) ?_)
  intro w14 b15 h16 hb17 hn18
  refine RegI.pure 1 [1] [(1, .pointer (some ⟨b15, 0, none⟩))] (by kernel_rfl) ?_
  refine RegI.done (by kernel_rfl) ?_
  refine RunsI.go 1 [.c 3, .c 4] (by kernel_rfl) ?_
  refine RunsI.region (by kernel_rfl) ?_
  refine RegI.pure 2 [2] [(2, .func (.func 38) #[] #[.pointer (some ⟨b15, 0, none⟩)])] (by kernel_rfl) ?_
  refine RegI.done (by kernel_rfl) ?_
  refine RunsI.ret (.func (.func 38) #[] #[.pointer (some ⟨b15, 0, none⟩)]) (by kernel_rfl) (by kernel_rfl) ?_
  refine cont_mk ?_
  refine RegI.done (by kernel_rfl) ?_
  refine RunsI.go 1 [.c 10, .blk 0, .c 16] (by kernel_rfl) ?_
  refine RunsI.rangeFunc (G := F38) [4, 5, 10] [(4, .pointer (some ⟨b2, 0, none⟩)), (5, .pointer (some ⟨b7, 0, none⟩)), (10, .func (.func 38) #[] #[.pointer (some ⟨b15, 0, none⟩)])] 38 [.pointer (some ⟨b15, 0, none⟩)] h16 (by kernel_rfl) (by kernel_rfl) (by kernel_rfl) (fun _ _ => by kernel_rfl) rfl rfl (by kernel_rfl) rfl rfl ?_
  intro b19 b20 w21 h22 hb23 hn24 hn25
  refine RunsI.go 2 [.c 2, .lp 2, .blk 0] (by kernel_rfl) ?_
  obtain ⟨x115, hx116, h⟩ := of_bind h
  have h26 := h22.addOwnNil (Rp.pair (Rp.int .i64) (Rp.pair (Rp.int .u8) (Rp.pair (Rp.int .u8) (Rp.pair (Rp.int .u16) (Rp.pair (Rp.int .i64) (Rp.int .i64)))))) 30
  refine RunsI.only [0, 1] [(0, .func (.yield b20) #[] #[]), (1, .pointer (some ⟨b15, 0, none⟩))] (by kernel_rfl) (by kernel_rfl) ?_
  refine decode_All_17.l0_ok K M0 w0 pA0 pc0 p0 b20 b2 b7 b15 b19 _ x115 ?_ K ([] : List (Int × Int × Int × Int × Int × Int)) (p0.length : Int) p0 none 0 pA0 pc0 w21 hx116 (h26.pick [5, 1, 6, 2, 3, 0, 4] (by decide))
  · intro t119 t120 t123 A117 c118 A121 c122 w125 hq139 h124
    (try rw [hq139] at h)
    dsimp only at h
    refine contR_mk ?_
    refine RunsI.endLoop 3 h124 rfl rfl (by intro hh; cases hh) [.blk 0, .c 16] (by kernel_rfl) ?_
    intro w126 h127 hk128
    refine RunsI.go 2 [.c 17, .c 18] (by kernel_rfl) ?_
    refine RunsI.any 4 (by kernel_rfl) (by kernel_rfl) (by kernel_rfl) (Kp ([] : List Nat) (World.drew w126)) ?_
    have h130 := h127.drew
    generalize World.drew w126 = w129 at h130 ⊢
    have hS131 := Kp.refl ([] : List Nat) w129
    refine AnyE.loadBox 0 20 0 33 b2 0 (.slice A117 t119.length c118) [] h130 rfl (by kernel_rfl) hS131 rfl rfl (by kernel_rfl) (by kernel_rfl) ?_
    refine AnyE.loadBox 1 21 2 3 b7 0 (.int .i64 t120) [] h130 rfl (by kernel_rfl) hS131 rfl rfl (by kernel_rfl) (by kernel_rfl) ?_
    refine AnyE.pure 2 2 (.slice A117 t119.length c118) (by kernel_rfl) hS131 (fun _ => by kernel_rfl) ?_
    refine AnyE.pure 3 3 (.int .i64 t120) (by kernel_rfl) hS131 (fun _ => by kernel_rfl) ?_
    refine AnyE.done (by kernel_rfl) (fun w133 hu134 => ?_)
    have h135 := h130.call hu134
    refine RunsI.only [2, 3] [(2, .slice A117 t119.length c118), (3, .int .i64 t120)] (by kernel_rfl) (by kernel_rfl) ?_
    refine RunsI.toRet (by kernel_rfl) ?_
    refine RetI.takeH 6 b19 h135 rfl ?_
    intro w136 h137 hk138
    refine RetI.val (.tuple #[.slice A117 t119.length c118, .int .i64 t120]) (by kernel_rfl) ?_
    obtain rfl := Option.some.inj h
    exact ⟨A117, c118, rfl, h137.pick [1] (by decide)⟩
end

/-! ### charabanc/decode.heads (function 33) -/
section
def decode_heads_33.post (M0 : Nat → Prop) (w0 : World) (r : (List Int) × Bool) : Ending → World → Prop := fun e w => ∃ (A1 : Option Addr) (c1 : Nat), e = .returned (.tuple #[.slice A1 r.1.length c1, .bool r.2]) ∧ Holds M0 w0 w [own (Rp.int .u8) 5 (.slice A1 r.1.length c1) r.1]
def decode_heads_33.f (K : Nat) (p0 : Int) : Option ((List Int) × Bool) := cond (p0 == 0) (some (([] : List Int), true)) (cond (p0 == 1) (some (([203] : List Int), true)) (cond (p0 == 2) (some (([237] : List Int), true)) (cond (p0 == 3) (some (([221] : List Int), true)) (cond (p0 == 4) (some (([253] : List Int), true)) (cond (p0 == 5) (some (([221, 203] : List Int), true)) (cond (p0 == 6) (some (([253, 203] : List Int), true)) (some (([] : List Int), false))))))))
set_option maxRecDepth 100000 in
theorem decode_heads_33_ok (K : Nat) (M0 : Nat → Prop) (w0 : World) (p0 : Int) (ho : ∀ b, M0 b → b < w0.heap.size) {r : (List Int) × Bool} (h : decode_heads_33.f K p0 = some r) :
    Calls Try.prog 33 #[.int .i64 p0] w0 (decode_heads_33.post M0 w0 r) := by
  unfold decode_heads_33.f at h
  have h0 : Holds M0 w0 w0 [] := Holds.start ho
  have h0 : Holds M0 w0 w0 [] := h0
  refine calls_of F33 rfl [.int .i64 p0] (by kernel_rfl) ?_
  refine RunsI.go 1 [.c 1, .c 2] (by kernel_rfl) ?_
  refine RunsI.region (by kernel_rfl) ?_
  refine RegI.pure 2 [0] [(0, .int .i64 p0)] (by kernel_rfl) ?_
  refine RegI.done (by kernel_rfl) ?_
  refine RunsI.go 1 [.c 3, .c 4] (by kernel_rfl) ?_
  refine RunsI.region (by kernel_rfl) ?_
  refine RegI.op (by kernel_rfl) (OpE.makeMap 7 (ekI .i64) (fun (v : Value) => v) h0 (by kernel_rfl) (by kernel_rfl) ?_)
  intro w1 b2 h3 hb4 hn5
  refine RegI.op (by kernel_rfl) (OpE.lit 8 5 [] 0 h3 (by kernel_rfl) (by kernel_rfl) ?_)
  intro w6 b7 h8 hb9 hn10
  refine RegI.op (by kernel_rfl) (OpE.mapSet (ek := (ekI .i64)) (ev := (fun (v : Value) => v)) 0 68 3 27 0 (.slice (some ⟨b7, 0, none⟩) (([] : List Int).length) 0) h8 (by kernel_rfl) rfl (by kernel_rfl) rfl rfl (by kernel_rfl) (KeyOk.int .i64 (by kernel_rfl)) [(0, .slice (some ⟨b7, 0, none⟩) (([] : List Int).length) 0)] (by kernel_rfl) ?_)
  intro w11 h12 hk13
  refine RegI.op (by kernel_rfl) (OpE.lit 9 5 [.int .u8 203] 1 h12 (by kernel_rfl) (by kernel_rfl) ?_)
  intro w14 b15 h16 hb17 hn18
  refine RegI.op (by kernel_rfl) (OpE.mapSet (ek := (ekI .i64)) (ev := (fun (v : Value) => v)) 0 68 3 27 1 (.slice (some ⟨b15, 0, none⟩) (([203] : List Int).length) 1) h16 (by kernel_rfl) rfl (by kernel_rfl) rfl rfl (by kernel_rfl) (KeyOk.int .i64 (by kernel_rfl)) [(0, .slice (some ⟨b7, 0, none⟩) (([] : List Int).length) 0), (1, .slice (some ⟨b15, 0, none⟩) (([203] : List Int).length) 1)] (by kernel_rfl) ?_)
  intro w19 h20 hk21
  refine RegI.op (by kernel_rfl) (OpE.lit 10 5 [.int .u8 237] 1 h20 (by kernel_rfl) (by kernel_rfl) ?_)
  intro w22 b23 h24 hb25 hn26
  refine RegI.op (by kernel_rfl) (OpE.mapSet (ek := (ekI .i64)) (ev := (fun (v : Value) => v)) 0 68 3 27 2 (.slice (some ⟨b23, 0, none⟩) (([237] : List Int).length) 1) h24 (by kernel_rfl) rfl (by kernel_rfl) rfl rfl (by kernel_rfl) (KeyOk.int .i64 (by kernel_rfl)) [(0, .slice (some ⟨b7, 0, none⟩) (([] : List Int).length) 0), (1, .slice (some ⟨b15, 0, none⟩) (([203] : List Int).length) 1), (2, .slice (some ⟨b23, 0, none⟩) (([237] : List Int).length) 1)] (by kernel_rfl) ?_)
  intro w27 h28 hk29
  refine RegI.op (by kernel_rfl) (OpE.lit 11 5 [.int .u8 221] 1 h28 (by kernel_rfl) (by kernel_rfl) ?_)
  intro w30 b31 h32 hb33 hn34
  refine RegI.op (by kernel_rfl) (OpE.mapSet (ek := (ekI .i64)) (ev := (fun (v : Value) => v)) 0 68 3 27 3 (.slice (some ⟨b31, 0, none⟩) (([221] : List Int).length) 1) h32 (by kernel_rfl) rfl (by kernel_rfl) rfl rfl (by kernel_rfl) (KeyOk.int .i64 (by kernel_rfl)) [(0, .slice (some ⟨b7, 0, none⟩) (([] : List Int).length) 0), (1, .slice (some ⟨b15, 0, none⟩) (([203] : List Int).length) 1), (2, .slice (some ⟨b23, 0, none⟩) (([237] : List Int).length) 1), (3, .slice (some ⟨b31, 0, none⟩) (([221] : List Int).length) 1)] (by kernel_rfl) ?_)
  intro w35 h36 hk37
  refine RegI.op (by kernel_rfl) (OpE.lit 12 5 [.int .u8 253] 1 h36 (by kernel_rfl) (by kernel_rfl) ?_)
  intro w38 b39 h40 hb41 hn42
  refine RegI.op (by kernel_rfl) (OpE.mapSet (ek := (ekI .i64)) (ev := (fun (v : Value) => v)) 0 68 3 27 4 (.slice (some ⟨b39, 0, none⟩) (([253] : List Int).length) 1) h40 (by kernel_rfl) rfl (by kernel_rfl) rfl rfl (by kernel_rfl) (KeyOk.int .i64 (by kernel_rfl)) [(0, .slice (some ⟨b7, 0, none⟩) (([] : List Int).length) 0), (1, .slice (some ⟨b15, 0, none⟩) (([203] : List Int).length) 1), (2, .slice (some ⟨b23, 0, none⟩) (([237] : List Int).length) 1), (3, .slice (some ⟨b31, 0, none⟩) (([221] : List Int).length) 1), (4, .slice (some ⟨b39, 0, none⟩) (([253] : List Int).length) 1)] (by kernel_rfl) ?_)
  intro w43 h44 hk45
  refine RegI.op (by kernel_rfl) (OpE.lit 13 5 [.int .u8 221, .int .u8 203] 2 h44 (by kernel_rfl) (by kernel_rfl) ?_)
  intro w46 b47 h48 hb49 hn50
  refine RegI.op (by kernel_rfl) (OpE.mapSet (ek := (ekI .i64)) (ev := (fun (v : Value) => v)) 0 68 3 27 5 (.slice (some ⟨b47, 0, none⟩) (([221, 203] : List Int).length) 2) h48 (by kernel_rfl) rfl (by kernel_rfl) rfl rfl (by kernel_rfl) (KeyOk.int .i64 (by kernel_rfl)) [(0, .slice (some ⟨b7, 0, none⟩) (([] : List Int).length) 0), (1, .slice (some ⟨b15, 0, none⟩) (([203] : List Int).length) 1), (2, .slice (some ⟨b23, 0, none⟩) (([237] : List Int).length) 1), (3, .slice (some ⟨b31, 0, none⟩) (([221] : List Int).length) 1), (4, .slice (some ⟨b39, 0, none⟩) (([253] : List Int).length) 1), (5, .slice (some ⟨b47, 0, none⟩) (([221, 203] : List Int).length) 2)] (by kernel_rfl) ?_)
  intro w51 h52 hk53
  refine RegI.op (by kernel_rfl) (OpE.lit 14 5 [.int .u8 253, .int .u8 203] 2 h52 (by kernel_rfl) (by kernel_rfl) ?_)
  intro w54 b55 h56 hb57 hn58
  refine RegI.op (by kernel_rfl) (OpE.mapSet (ek := (ekI .i64)) (ev := (fun (v : Value) => v)) 0 68 3 27 6 (.slice (some ⟨b55, 0, none⟩) (([253, 203] : List Int).length) 2) h56 (by kernel_rfl) rfl (by kernel_rfl) rfl rfl (by kernel_rfl) (KeyOk.int .i64 (by kernel_rfl)) [(0, .slice (some ⟨b7, 0, none⟩) (([] : List Int).length) 0), (1, .slice (some ⟨b15, 0, none⟩) (([203] : List Int).length) 1), (2, .slice (some ⟨b23, 0, none⟩) (([237] : List Int).length) 1), (3, .slice (some ⟨b31, 0, none⟩) (([221] : List Int).length) 1), (4, .slice (some ⟨b39, 0, none⟩) (([253] : List Int).length) 1), (5, .slice (some ⟨b47, 0, none⟩) (([221, 203] : List Int).length) 2), (6, .slice (some ⟨b55, 0, none⟩) (([253, 203] : List Int).length) 2)] (by kernel_rfl) ?_)
  intro w59 h60 hk61
  refine RegI.pure 2 [15, 16] [(15, .map (some b2)), (16, .int .i64 p0)] (by kernel_rfl) ?_
  rcases of_cond h with ⟨hc62, h⟩ | ⟨hc62, h⟩
  · skip
    refine RegI.op (by kernel_rfl) (OpE.lookup (ek := (ekI .i64)) (ev := (fun (v : Value) => v)) (zv := .slice none 0 0) 17 0 68 3 27 p0 (.tuple #[.slice (some ⟨b7, 0, none⟩) (([] : List Int).length) 0, .bool true]) true h60 (by kernel_rfl) rfl (by kernel_rfl) rfl (by kernel_rfl) (KeyOk.int .i64 (by kernel_rfl)) (fun _ => by kernel_rfl) (by simp only [findK, hc62, cond_true, cond_false, Option.map_some, Option.map_none, Option.getD_some, Option.getD_none, Option.isSome_some, Option.isSome_none]) ?_)
    refine RegI.pure 5 [4, 5] [(4, .slice (some ⟨b7, 0, none⟩) (([] : List Int).length) 0), (5, .bool true)] (by kernel_rfl) ?_
    refine RegI.done (by kernel_rfl) ?_
    refine RunsI.go 1 [.c 5, .c 6] (by kernel_rfl) ?_
    refine RunsI.region (by kernel_rfl) ?_
    refine RegI.pure 4 [2, 3] [(2, .slice (some ⟨b7, 0, none⟩) (([] : List Int).length) 0), (3, .bool true)] (by kernel_rfl) ?_
    refine RegI.done (by kernel_rfl) ?_
    refine RunsI.ret (.tuple #[.slice (some ⟨b7, 0, none⟩) (([] : List Int).length) 0, .bool true]) (by kernel_rfl) (by kernel_rfl) ?_
    have h69 := h60.boxOwn 1 rfl (Rp.int .u8) ([] : List Int) (cells_int _ _ _ _) (Nat.le_of_ble_eq_true (by kernel_rfl))
    obtain rfl := Option.some.inj h
    exact ⟨(some ⟨b7, 0, none⟩), 0, rfl, h69.pick [1] (by decide)⟩
  · skip
    rcases of_cond h with ⟨hc63, h⟩ | ⟨hc63, h⟩
    · skip
      refine RegI.op (by kernel_rfl) (OpE.lookup (ek := (ekI .i64)) (ev := (fun (v : Value) => v)) (zv := .slice none 0 0) 17 0 68 3 27 p0 (.tuple #[.slice (some ⟨b15, 0, none⟩) (([203] : List Int).length) 1, .bool true]) true h60 (by kernel_rfl) rfl (by kernel_rfl) rfl (by kernel_rfl) (KeyOk.int .i64 (by kernel_rfl)) (fun _ => by kernel_rfl) (by simp only [findK, hc62, hc63, cond_true, cond_false, Option.map_some, Option.map_none, Option.getD_some, Option.getD_none, Option.isSome_some, Option.isSome_none]) ?_)
      refine RegI.pure 5 [4, 5] [(4, .slice (some ⟨b15, 0, none⟩) (([203] : List Int).length) 1), (5, .bool true)] (by kernel_rfl) ?_
      refine RegI.done (by kernel_rfl) ?_
      refine RunsI.go 1 [.c 5, .c 6] (by kernel_rfl) ?_
      refine RunsI.region (by kernel_rfl) ?_
      refine RegI.pure 4 [2, 3] [(2, .slice (some ⟨b15, 0, none⟩) (([203] : List Int).length) 1), (3, .bool true)] (by kernel_rfl) ?_
      refine RegI.done (by kernel_rfl) ?_
      refine RunsI.ret (.tuple #[.slice (some ⟨b15, 0, none⟩) (([203] : List Int).length) 1, .bool true]) (by kernel_rfl) (by kernel_rfl) ?_
      have h70 := h60.boxOwn 2 rfl (Rp.int .u8) ([203] : List Int) (cells_int _ _ _ _) (Nat.le_of_ble_eq_true (by kernel_rfl))
      obtain rfl := Option.some.inj h
      exact ⟨(some ⟨b15, 0, none⟩), 1, rfl, h70.pick [2] (by decide)⟩
    · skip
      rcases of_cond h with ⟨hc64, h⟩ | ⟨hc64, h⟩
      · skip
        refine RegI.op (by kernel_rfl) (OpE.lookup (ek := (ekI .i64)) (ev := (fun (v : Value) => v)) (zv := .slice none 0 0) 17 0 68 3 27 p0 (.tuple #[.slice (some ⟨b23, 0, none⟩) (([237] : List Int).length) 1, .bool true]) true h60 (by kernel_rfl) rfl (by kernel_rfl) rfl (by kernel_rfl) (KeyOk.int .i64 (by kernel_rfl)) (fun _ => by kernel_rfl) (by simp only [findK, hc62, hc63, hc64, cond_true, cond_false, Option.map_some, Option.map_none, Option.getD_some, Option.getD_none, Option.isSome_some, Option.isSome_none]) ?_)
        refine RegI.pure 5 [4, 5] [(4, .slice (some ⟨b23, 0, none⟩) (([237] : List Int).length) 1), (5, .bool true)] (by kernel_rfl) ?_
        refine RegI.done (by kernel_rfl) ?_
        refine RunsI.go 1 [.c 5, .c 6] (by kernel_rfl) ?_
        refine RunsI.region (by kernel_rfl) ?_
        refine RegI.pure 4 [2, 3] [(2, .slice (some ⟨b23, 0, none⟩) (([237] : List Int).length) 1), (3, .bool true)] (by kernel_rfl) ?_
        refine RegI.done (by kernel_rfl) ?_
        refine RunsI.ret (.tuple #[.slice (some ⟨b23, 0, none⟩) (([237] : List Int).length) 1, .bool true]) (by kernel_rfl) (by kernel_rfl) ?_
        have h71 := h60.boxOwn 3 rfl (Rp.int .u8) ([237] : List Int) (cells_int _ _ _ _) (Nat.le_of_ble_eq_true (by kernel_rfl))
        obtain rfl := Option.some.inj h
        exact ⟨(some ⟨b23, 0, none⟩), 1, rfl, h71.pick [3] (by decide)⟩
      · skip
        rcases of_cond h with ⟨hc65, h⟩ | ⟨hc65, h⟩
        · skip
          refine RegI.op (by kernel_rfl) (OpE.lookup (ek := (ekI .i64)) (ev := (fun (v : Value) => v)) (zv := .slice none 0 0) 17 0 68 3 27 p0 (.tuple #[.slice (some ⟨b31, 0, none⟩) (([221] : List Int).length) 1, .bool true]) true h60 (by kernel_rfl) rfl (by kernel_rfl) rfl (by kernel_rfl) (KeyOk.int .i64 (by kernel_rfl)) (fun _ => by kernel_rfl) (by simp only [findK, hc62, hc63, hc64, hc65, cond_true, cond_false, Option.map_some, Option.map_none, Option.getD_some, Option.getD_none, Option.isSome_some, Option.isSome_none]) ?_)
          refine RegI.pure 5 [4, 5] [(4, .slice (some ⟨b31, 0, none⟩) (([221] : List Int).length) 1), (5, .bool true)] (by kernel_rfl) ?_
          refine RegI.done (by kernel_rfl) ?_
          refine RunsI.go 1 [.c 5, .c 6] (by kernel_rfl) ?_
          refine RunsI.region (by kernel_rfl) ?_
          refine RegI.pure 4 [2, 3] [(2, .slice (some ⟨b31, 0, none⟩) (([221] : List Int).length) 1), (3, .bool true)] (by kernel_rfl) ?_
          refine RegI.done (by kernel_rfl) ?_
          refine RunsI.ret (.tuple #[.slice (some ⟨b31, 0, none⟩) (([221] : List Int).length) 1, .bool true]) (by kernel_rfl) (by kernel_rfl) ?_
          have h72 := h60.boxOwn 4 rfl (Rp.int .u8) ([221] : List Int) (cells_int _ _ _ _) (Nat.le_of_ble_eq_true (by kernel_rfl))
          obtain rfl := Option.some.inj h
          exact ⟨(some ⟨b31, 0, none⟩), 1, rfl, h72.pick [4] (by decide)⟩
        · skip
          rcases of_cond h with ⟨hc66, h⟩ | ⟨hc66, h⟩
          · skip
            refine RegI.op (by kernel_rfl) (OpE.lookup (ek := (ekI .i64)) (ev := (fun (v : Value) => v)) (zv := .slice none 0 0) 17 0 68 3 27 p0 (.tuple #[.slice (some ⟨b39, 0, none⟩) (([253] : List Int).length) 1, .bool true]) true h60 (by kernel_rfl) rfl (by kernel_rfl) rfl (by kernel_rfl) (KeyOk.int .i64 (by kernel_rfl)) (fun _ => by kernel_rfl) (by simp only [findK, hc62, hc63, hc64, hc65, hc66, cond_true, cond_false, Option.map_some, Option.map_none, Option.getD_some, Option.getD_none, Option.isSome_some, Option.isSome_none]) ?_)
            refine RegI.pure 5 [4, 5] [(4, .slice (some ⟨b39, 0, none⟩) (([253] : List Int).length) 1), (5, .bool true)] (by kernel_rfl) ?_
            refine RegI.done (by kernel_rfl) ?_
            refine RunsI.go 1 [.c 5, .c 6] (by kernel_rfl) ?_
            refine RunsI.region (by kernel_rfl) ?_
            refine RegI.pure 4 [2, 3] [(2, .slice (some ⟨b39, 0, none⟩) (([253] : List Int).length) 1), (3, .bool true)] (by kernel_rfl) ?_
            refine RegI.done (by kernel_rfl) ?_
            refine RunsI.ret (.tuple #[.slice (some ⟨b39, 0, none⟩) (([253] : List Int).length) 1, .bool true]) (by kernel_rfl) (by kernel_rfl) ?_
            have h73 := h60.boxOwn 5 rfl (Rp.int .u8) ([253] : List Int) (cells_int _ _ _ _) (Nat.le_of_ble_eq_true (by kernel_rfl))
            obtain rfl := Option.some.inj h
            exact ⟨(some ⟨b39, 0, none⟩), 1, rfl, h73.pick [5] (by decide)⟩
          · skip
            rcases of_cond h with ⟨hc67, h⟩ | ⟨hc67, h⟩
            · skip
              refine RegI.op (by kernel_rfl) (OpE.lookup (ek := (ekI .i64)) (ev := (fun (v : Value) => v)) (zv := .slice none 0 0) 17 0 68 3 27 p0 (.tuple #[.slice (some ⟨b47, 0, none⟩) (([221, 203] : List Int).length) 2, .bool true]) true h60 (by kernel_rfl) rfl (by kernel_rfl) rfl (by kernel_rfl) (KeyOk.int .i64 (by kernel_rfl)) (fun _ => by kernel_rfl) (by simp only [findK, hc62, hc63, hc64, hc65, hc66, hc67, cond_true, cond_false, Option.map_some, Option.map_none, Option.getD_some, Option.getD_none, Option.isSome_some, Option.isSome_none]) ?_)
              refine RegI.pure 5 [4, 5] [(4, .slice (some ⟨b47, 0, none⟩) (([221, 203] : List Int).length) 2), (5, .bool true)] (by kernel_rfl) ?_
              refine RegI.done (by kernel_rfl) ?_
              refine RunsI.go 1 [.c 5, .c 6] (by kernel_rfl) ?_
              refine RunsI.region (by kernel_rfl) ?_
              refine RegI.pure 4 [2, 3] [(2, .slice (some ⟨b47, 0, none⟩) (([221, 203] : List Int).length) 2), (3, .bool true)] (by kernel_rfl) ?_
              refine RegI.done (by kernel_rfl) ?_
              refine RunsI.ret (.tuple #[.slice (some ⟨b47, 0, none⟩) (([221, 203] : List Int).length) 2, .bool true]) (by kernel_rfl) (by kernel_rfl) ?_
              have h74 := h60.boxOwn 6 rfl (Rp.int .u8) ([221, 203] : List Int) (cells_int _ _ _ _) (Nat.le_of_ble_eq_true (by kernel_rfl))
              obtain rfl := Option.some.inj h
              exact ⟨(some ⟨b47, 0, none⟩), 2, rfl, h74.pick [6] (by decide)⟩
            · skip
              rcases of_cond h with ⟨hc68, h⟩ | ⟨hc68, h⟩
              · skip
                refine RegI.op (by kernel_rfl) (OpE.lookup (ek := (ekI .i64)) (ev := (fun (v : Value) => v)) (zv := .slice none 0 0) 17 0 68 3 27 p0 (.tuple #[.slice (some ⟨b55, 0, none⟩) (([253, 203] : List Int).length) 2, .bool true]) true h60 (by kernel_rfl) rfl (by kernel_rfl) rfl (by kernel_rfl) (KeyOk.int .i64 (by kernel_rfl)) (fun _ => by kernel_rfl) (by simp only [findK, hc62, hc63, hc64, hc65, hc66, hc67, hc68, cond_true, cond_false, Option.map_some, Option.map_none, Option.getD_some, Option.getD_none, Option.isSome_some, Option.isSome_none]) ?_)
                refine RegI.pure 5 [4, 5] [(4, .slice (some ⟨b55, 0, none⟩) (([253, 203] : List Int).length) 2), (5, .bool true)] (by kernel_rfl) ?_
                refine RegI.done (by kernel_rfl) ?_
                refine RunsI.go 1 [.c 5, .c 6] (by kernel_rfl) ?_
                refine RunsI.region (by kernel_rfl) ?_
                refine RegI.pure 4 [2, 3] [(2, .slice (some ⟨b55, 0, none⟩) (([253, 203] : List Int).length) 2), (3, .bool true)] (by kernel_rfl) ?_
                refine RegI.done (by kernel_rfl) ?_
                refine RunsI.ret (.tuple #[.slice (some ⟨b55, 0, none⟩) (([253, 203] : List Int).length) 2, .bool true]) (by kernel_rfl) (by kernel_rfl) ?_
                have h75 := h60.boxOwn 7 rfl (Rp.int .u8) ([253, 203] : List Int) (cells_int _ _ _ _) (Nat.le_of_ble_eq_true (by kernel_rfl))
                obtain rfl := Option.some.inj h
                exact ⟨(some ⟨b55, 0, none⟩), 2, rfl, h75.pick [7] (by decide)⟩
              · skip
                refine RegI.op (by kernel_rfl) (OpE.lookup (ek := (ekI .i64)) (ev := (fun (v : Value) => v)) (zv := .slice none 0 0) 17 0 68 3 27 p0 (.tuple #[.slice none 0 0, .bool false]) true h60 (by kernel_rfl) rfl (by kernel_rfl) rfl (by kernel_rfl) (KeyOk.int .i64 (by kernel_rfl)) (fun _ => by kernel_rfl) (by simp only [findK, hc62, hc63, hc64, hc65, hc66, hc67, hc68, cond_true, cond_false, Option.map_some, Option.map_none, Option.getD_some, Option.getD_none, Option.isSome_some, Option.isSome_none]) ?_)
                refine RegI.pure 5 [4, 5] [(4, .slice none 0 0), (5, .bool false)] (by kernel_rfl) ?_
                refine RegI.done (by kernel_rfl) ?_
                refine RunsI.go 1 [.c 5, .c 6] (by kernel_rfl) ?_
                refine RunsI.region (by kernel_rfl) ?_
                refine RegI.pure 4 [2, 3] [(2, .slice none 0 0), (3, .bool false)] (by kernel_rfl) ?_
                refine RegI.done (by kernel_rfl) ?_
                refine RunsI.ret (.tuple #[.slice none 0 0, .bool false]) (by kernel_rfl) (by kernel_rfl) ?_
                have h76 := h60.addOwnNil (Rp.int .u8) 5
                obtain rfl := Option.some.inj h
                exact ⟨none, 0, rfl, h76.pick [8] (by decide)⟩
end

/-! ### charabanc/bits.Lo (function 34) -/
section
def bits_Lo_34.post (M0 : Nat → Prop) (w0 : World) (r : Int) : Ending → World → Prop := fun e w => e = .returned (.int .u8 r) ∧ Below w0.heap.size w0 w
def bits_Lo_34.f (K : Nat) (p0 : Int) : Option Int := some (IntKind.wrap .u8 p0)
set_option maxRecDepth 100000 in
theorem bits_Lo_34_ok (K : Nat) (M0 : Nat → Prop) (w0 : World) (p0 : Int) (ho : ∀ b, M0 b → b < w0.heap.size) {r : Int} (h : bits_Lo_34.f K p0 = some r) :
    Calls Try.prog 34 #[.int .u16 p0] w0 (bits_Lo_34.post M0 w0 r) := by
  unfold bits_Lo_34.f at h
  have h0 : Holds M0 w0 w0 [] := Holds.start ho
  have h0 : Holds M0 w0 w0 [] := h0
  refine calls_of F34 rfl [.int .u16 p0] (by kernel_rfl) ?_
  refine RunsI.go 1 [.c 1, .c 2] (by kernel_rfl) ?_
  refine RunsI.region (by kernel_rfl) ?_
  refine RegI.pure 1 [0] [(0, .int .u16 p0)] (by kernel_rfl) ?_
  refine RegI.done (by kernel_rfl) ?_
  refine RunsI.go 1 [.c 3, .c 4] (by kernel_rfl) ?_
  refine RunsI.region (by kernel_rfl) ?_
  refine RegI.pure 3 [2] [(2, .int .u8 (IntKind.wrap .u8 p0))] (by kernel_rfl) ?_
  refine RegI.done (by kernel_rfl) ?_
  refine RunsI.ret (.int .u8 (IntKind.wrap .u8 p0)) (by kernel_rfl) (by kernel_rfl) ?_
  obtain rfl := Option.some.inj h
  exact ⟨rfl, h0.below⟩
end

/-! ### charabanc/bits.Hi (function 35) -/
section
def bits_Hi_35.post (M0 : Nat → Prop) (w0 : World) (r : Int) : Ending → World → Prop := fun e w => e = .returned (.int .u8 r) ∧ Below w0.heap.size w0 w
def bits_Hi_35.f (K : Nat) (p0 : Int) : Option Int := some (IntKind.wrap .u8 (Int.fdiv p0 (2 ^ 8)))
set_option maxRecDepth 100000 in
theorem bits_Hi_35_ok (K : Nat) (M0 : Nat → Prop) (w0 : World) (p0 : Int) (ho : ∀ b, M0 b → b < w0.heap.size) {r : Int} (h : bits_Hi_35.f K p0 = some r) :
    Calls Try.prog 35 #[.int .u16 p0] w0 (bits_Hi_35.post M0 w0 r) := by
  unfold bits_Hi_35.f at h
  have h0 : Holds M0 w0 w0 [] := Holds.start ho
  have h0 : Holds M0 w0 w0 [] := h0
  refine calls_of F35 rfl [.int .u16 p0] (by kernel_rfl) ?_
  refine RunsI.go 1 [.c 1, .c 2] (by kernel_rfl) ?_
  refine RunsI.region (by kernel_rfl) ?_
  refine RegI.pure 1 [0] [(0, .int .u16 p0)] (by kernel_rfl) ?_
  refine RegI.done (by kernel_rfl) ?_
  refine RunsI.go 1 [.c 3, .c 4] (by kernel_rfl) ?_
  refine RunsI.region (by kernel_rfl) ?_
  refine RegI.pure 4 [2] [(2, .int .u8 (IntKind.wrap .u8 (Int.fdiv p0 (2 ^ 8))))] (by kernel_rfl) ?_
  refine RegI.done (by kernel_rfl) ?_
  refine RunsI.ret (.int .u8 (IntKind.wrap .u8 (Int.fdiv p0 (2 ^ 8)))) (by kernel_rfl) (by kernel_rfl) ?_
  obtain rfl := Option.some.inj h
  exact ⟨rfl, h0.below⟩
end

/-! ### charabanc/decode.Bytes (function 20) -/
section
def decode_Bytes_20.post (M0 : Nat → Prop) (w0 : World) (r : (List Int)) : Ending → World → Prop := fun e w => ∃ (A1 : Option Addr) (c1 : Nat), e = .returned (.slice A1 r.length c1) ∧ Holds M0 w0 w [own (Rp.int .u8) 5 (.slice A1 r.length c1) r]
def decode_Bytes_20.f (K : Nat) (p0_0 : Int) (p0_1 : Int) (p0_2 : Int) (p0_3 : Int) (p0_4 : Int) (p0_5 : Int) : Option (List Int) := (decode_heads_33.f K p0_0).bind fun yt10 => cond (!yt10.2) (some ([] : List Int)) (Let (fun (t18 : Bool) => cond t18 (cond (mayBe (yt10.1.length + ([p0_2, p0_1] : List Int).length) 1) (some (yt10.1 ++ ([p0_2, p0_1] : List Int))) none) (cond (mayBe (yt10.1.length + ([p0_1] : List Int).length) 1) ((decode_Near_13.f K p0_0 p0_1).bind fun t51 => Let (fun (t66 : (List Int)) => (bits_Lo_34.f K p0_3).bind fun t77 => (bits_Hi_35.f K p0_3).bind fun t79 => (decode_Size_11.f K p0_0 p0_1).bind fun t98 => cond (cutR 0 t98 ([t77, t79] : List Int).length) (cond (mayBe (t66.length + (cutL ([t77, t79] : List Int) 0 t98).length) 1) (some (t66 ++ (cutL ([t77, t79] : List Int) 0 t98))) none) none) (fun j69 => cond t51 (cond (mayBe ((yt10.1 ++ ([p0_1] : List Int)).length + ([p0_2] : List Int).length) 1) (j69 ((yt10.1 ++ ([p0_1] : List Int)) ++ ([p0_2] : List Int))) none) (j69 (yt10.1 ++ ([p0_1] : List Int))))) none)) (fun j21 => cond (p0_0 == 5) (j21 true) (j21 (p0_0 == 6))))
set_option maxRecDepth 100000 in
theorem decode_Bytes_20_ok (K : Nat) (M0 : Nat → Prop) (w0 : World) (p0_0 : Int) (p0_1 : Int) (p0_2 : Int) (p0_3 : Int) (p0_4 : Int) (p0_5 : Int) (ho : ∀ b, M0 b → b < w0.heap.size) {r : (List Int)} (h : decode_Bytes_20.f K p0_0 p0_1 p0_2 p0_3 p0_4 p0_5 = some r) :
    Calls Try.prog 20 #[.agg #[.int .i64 p0_0, .int .u8 p0_1, .int .u8 p0_2, .int .u16 p0_3, .int .i64 p0_4, .int .i64 p0_5]] w0 (decode_Bytes_20.post M0 w0 r) := by
  unfold decode_Bytes_20.f at h
  have h0 : Holds M0 w0 w0 [] := Holds.start ho
  have h0 : Holds M0 w0 w0 [] := h0
  refine calls_of F20 rfl [.agg #[.int .i64 p0_0, .int .u8 p0_1, .int .u8 p0_2, .int .u16 p0_3, .int .i64 p0_4, .int .i64 p0_5]] (by kernel_rfl) ?_
  refine RunsI.go 1 [.c 1, .c 2] (by kernel_rfl) ?_
  refine RunsI.region (by kernel_rfl) ?_
  refine RegI.op (by kernel_rfl) (OpE.box 1 30 [.int .i64 p0_0, .int .u8 p0_1, .int .u8 p0_2, .int .u16 p0_3, .int .i64 p0_4, .int .i64 p0_5] h0 (by kernel_rfl) (by kernel_rfl) ?_)
  intro w1 b2 h3 hb4 hn5
  refine RegI.pure 1 [1] [(1, .pointer (some ⟨b2, 0, none⟩))] (by kernel_rfl) ?_
  refine RegI.done (by kernel_rfl) ?_
  refine RunsI.go 1 [.c 3, .c 4] (by kernel_rfl) ?_
  refine RunsI.region (by kernel_rfl) ?_
  refine RegI.pure 1 [1, 7] [(1, .pointer (some ⟨b2, 0, none⟩)), (7, .pointer (some ⟨b2, 0, none⟩))] (by kernel_rfl) ?_
  refine RegI.op (by kernel_rfl) (OpE.loadBox 8 0 3 b2 0 (.int .i64 p0_0) h3 (by kernel_rfl) (by kernel_rfl) rfl (by kernel_rfl) ?_)
  obtain ⟨⟨t10, t14⟩, hg9, h⟩ := of_bind h
  dsimp only at h
  refine RegI.op (by kernel_rfl) (OpE.call 9 (by kernel_rfl) 33 #[.int .i64 p0_0] (by kernel_rfl) ((decode_heads_33_ok K _ w1  p0_0 h3.old' hg9).mono ?_))
  rintro _ w6 ⟨A11, c12, rfl, hr15⟩
  refine ⟨_, rfl, ?_⟩
  have hb7 := hr15.below
  have h8 := h3.join hr15
  refine RegI.pure 5 [1, 3, 4] [(1, .pointer (some ⟨b2, 0, none⟩)), (3, .slice A11 t10.length c12), (4, .bool t14)] (by kernel_rfl) ?_
  refine RegI.done (by kernel_rfl) ?_
  refine RunsI.go 3 [.c 7, .c 8, .blk 0, .c 19] (by kernel_rfl) ?_
  refine RunsI.region (by kernel_rfl) ?_
  refine RegI.pure 3 [1, 3, 12] [(1, .pointer (some ⟨b2, 0, none⟩)), (3, .slice A11 t10.length c12), (12, .bool (!t14))] (by kernel_rfl) ?_
  refine RegI.done (by kernel_rfl) ?_
  rcases of_cond h with ⟨hc16, h⟩ | ⟨hc16, h⟩
  · skip
    refine RunsI.fix 12 true hc16 (by kernel_rfl) (by kernel_rfl) ?_
    refine RunsI.cond true 9 (by kernel_rfl) ?_
    refine RunsI.go 1 [.c 10, .c 11, .blk 0, .c 19] (by kernel_rfl) ?_
    refine RunsI.region (by kernel_rfl) ?_
    refine RegI.pure 1 [2] [(2, .slice none 0 0)] (by kernel_rfl) ?_
    refine RegI.done (by kernel_rfl) ?_
    refine RunsI.ret (.slice none 0 0) (by kernel_rfl) (by kernel_rfl) ?_
    have h110 := h8.addOwnNil (Rp.int .u8) 5
    obtain rfl := Option.some.inj h
    exact ⟨none, 0, rfl, h110.pick [2] (by decide)⟩
  · skip
    refine RunsI.fix 12 false hc16 (by kernel_rfl) (by kernel_rfl) ?_
    refine RunsI.cond false 12 (by kernel_rfl) ?_
    refine RunsI.go 1 [.c 13, .c 14, .blk 0, .c 19] (by kernel_rfl) ?_
    refine RunsI.region (by kernel_rfl) ?_
    refine RegI.pure 1 [1, 3, 16] [(1, .pointer (some ⟨b2, 0, none⟩)), (3, .slice A11 t10.length c12), (16, .pointer (some ⟨b2, 0, none⟩))] (by kernel_rfl) ?_
    refine RegI.op (by kernel_rfl) (OpE.loadBox 17 0 3 b2 0 (.int .i64 p0_0) h8 (by kernel_rfl) (by kernel_rfl) rfl (by kernel_rfl) ?_)
    refine RegI.pure 2 [1, 3, 19] [(1, .pointer (some ⟨b2, 0, none⟩)), (3, .slice A11 t10.length c12), (19, .bool (p0_0 == 5))] (by kernel_rfl) ?_
    obtain ⟨j21, hJ22, h⟩ := of_let h
    have hj23 : ∀ (t18 : Bool) (w20 : World), j21 t18 = some r → Holds M0 w0 w20 [box b2 30 [.int .i64 p0_0, .int .u8 p0_1, .int .u8 p0_2, .int .u16 p0_3, .int .i64 p0_4, .int .i64 p0_5], own (Rp.int .u8) 5 (.slice A11 t10.length c12) t10] → RegI F20 13 [.c 14, .blk 0, .c 19] 9 [(1, .pointer (some ⟨b2, 0, none⟩)), (3, .slice A11 t10.length c12), (15, .bool t18)] w20 (decode_Bytes_20.post M0 w0 r) := by
      intro t18 w20 h h19
      rw [hJ22] at h
      clear hJ22
      dsimp only at h
      refine RegI.done (by kernel_rfl) ?_
      rcases of_cond h with ⟨hc24, h⟩ | ⟨hc24, h⟩
      · skip
        refine RunsI.fix 15 true hc24 (by kernel_rfl) (by kernel_rfl) ?_
        refine RunsI.cond true 15 (by kernel_rfl) ?_
        refine RunsI.go 1 [.c 16, .c 17, .blk 0, .c 19] (by kernel_rfl) ?_
        refine RunsI.region (by kernel_rfl) ?_
        refine RegI.pure 2 [1, 24, 25] [(1, .pointer (some ⟨b2, 0, none⟩)), (24, .slice A11 t10.length c12), (25, .pointer (some ⟨b2, 2, none⟩))] (by kernel_rfl) ?_
        refine RegI.op (by kernel_rfl) (OpE.loadBox 26 0 5 b2 2 (.int .u8 p0_2) h19 (by kernel_rfl) (by kernel_rfl) rfl (by kernel_rfl) ?_)
        refine RegI.pure 1 [24, 26, 27] [(24, .slice A11 t10.length c12), (26, .int .u8 p0_2), (27, .pointer (some ⟨b2, 1, none⟩))] (by kernel_rfl) ?_
        refine RegI.op (by kernel_rfl) (OpE.loadBox 28 0 5 b2 1 (.int .u8 p0_1) h19 (by kernel_rfl) (by kernel_rfl) rfl (by kernel_rfl) ?_)
        refine RegI.op (by kernel_rfl) (OpE.lit 29 5 [.int .u8 p0_2, .int .u8 p0_1] 2 h19 (by kernel_rfl) (by kernel_rfl) ?_)
        intro w25 b26 h27 hb28 hn29
        obtain ⟨hc30, h⟩ := of_cond0 h
        refine RegI.op (by kernel_rfl) (OpE.appendBox 30 1 2 27 5 1 ([p0_2, p0_1] : List Int) 1 h27 (by kernel_rfl) (by kernel_rfl) (by kernel_rfl) rfl rfl rfl (cells_int _ _ _ _) hc30 ?_)
        intro w31 A32 c33 h34 hk35
        refine RegI.pure 1 [2] [(2, .slice A32 ((t10 ++ ([p0_2, p0_1] : List Int)).length) c33)] (by kernel_rfl) ?_
        refine RegI.done (by kernel_rfl) ?_
        refine RunsI.ret (.slice A32 ((t10 ++ ([p0_2, p0_1] : List Int)).length) c33) (by kernel_rfl) (by kernel_rfl) ?_
        obtain rfl := Option.some.inj h
        exact ⟨A32, c33, rfl, h34.pick [1] (by decide)⟩
      · skip
        refine RunsI.fix 15 false hc24 (by kernel_rfl) (by kernel_rfl) ?_
        refine RunsI.cond false 18 (by kernel_rfl) ?_
        refine RunsI.go 1 [.blk 0, .c 19] (by kernel_rfl) ?_
        refine RunsI.go 2 [.c 20, .c 21] (by kernel_rfl) ?_
        refine RunsI.region (by kernel_rfl) ?_
        refine RegI.pure 2 [1, 31, 32] [(1, .pointer (some ⟨b2, 0, none⟩)), (31, .slice A11 t10.length c12), (32, .pointer (some ⟨b2, 1, none⟩))] (by kernel_rfl) ?_
        refine RegI.op (by kernel_rfl) (OpE.loadBox 33 0 5 b2 1 (.int .u8 p0_1) h19 (by kernel_rfl) (by kernel_rfl) rfl (by kernel_rfl) ?_)
        refine RegI.op (by kernel_rfl) (OpE.lit 34 5 [.int .u8 p0_1] 1 h19 (by kernel_rfl) (by kernel_rfl) ?_)
        intro w36 b37 h38 hb39 hn40
        obtain ⟨hc41, h⟩ := of_cond0 h
        refine RegI.op (by kernel_rfl) (OpE.appendBox 35 1 2 27 5 1 ([p0_1] : List Int) 0 h38 (by kernel_rfl) (by kernel_rfl) (by kernel_rfl) rfl rfl rfl (cells_int _ _ _ _) hc41 ?_)
        intro w42 A43 c44 h45 hk46
        refine RegI.pure 1 [1, 3] [(1, .pointer (some ⟨b2, 0, none⟩)), (3, .slice A43 ((t10 ++ ([p0_1] : List Int)).length) c44)] (by kernel_rfl) ?_
        refine RegI.done (by kernel_rfl) ?_
        refine RunsI.go 2 [.c 23, .c 24, .c 27] (by kernel_rfl) ?_
        refine RunsI.region (by kernel_rfl) ?_
        refine RegI.pure 1 [1, 3, 36] [(1, .pointer (some ⟨b2, 0, none⟩)), (3, .slice A43 ((t10 ++ ([p0_1] : List Int)).length) c44), (36, .pointer (some ⟨b2, 0, none⟩))] (by kernel_rfl) ?_
        refine RegI.op (by kernel_rfl) (OpE.loadBox 37 0 3 b2 0 (.int .i64 p0_0) h45 (by kernel_rfl) (by kernel_rfl) rfl (by kernel_rfl) ?_)
        refine RegI.pure 1 [1, 3, 37, 38] [(1, .pointer (some ⟨b2, 0, none⟩)), (3, .slice A43 ((t10 ++ ([p0_1] : List Int)).length) c44), (37, .int .i64 p0_0), (38, .pointer (some ⟨b2, 1, none⟩))] (by kernel_rfl) ?_
        refine RegI.op (by kernel_rfl) (OpE.loadBox 39 0 5 b2 1 (.int .u8 p0_1) h45 (by kernel_rfl) (by kernel_rfl) rfl (by kernel_rfl) ?_)
        obtain ⟨t51, hg50, h⟩ := of_bind h
        refine RegI.op (by kernel_rfl) (OpE.call 40 (by kernel_rfl) 13 #[.int .i64 p0_0, .int .u8 p0_1] (by kernel_rfl) ((decode_Near_13_ok K _ w42  p0_0 p0_1 h45.old' hg50).mono ?_))
        rintro _ w47 ⟨rfl, hb48⟩
        refine ⟨_, rfl, ?_⟩
        have h49 := h45.call hb48
        refine RegI.done (by kernel_rfl) ?_
        obtain ⟨j69, hJ70, h⟩ := of_let h
        have hj71 : ∀ (t66 : List Int) (A64 : Option Addr) (c65 : Nat) (w68 : World), j69 t66 = some r → Holds M0 w0 w68 [box b2 30 [.int .i64 p0_0, .int .u8 p0_1, .int .u8 p0_2, .int .u16 p0_3, .int .i64 p0_4, .int .i64 p0_5], own (Rp.int .u8) 5 (.slice A64 t66.length c65) t66] → RunsI F20 [.c 27] [(1, .pointer (some ⟨b2, 0, none⟩)), (3, .slice A64 t66.length c65)] w68 (decode_Bytes_20.post M0 w0 r) := by
          intro t66 A64 c65 w68 h h67
          rw [hJ70] at h
          clear hJ70
          dsimp only at h
          refine RunsI.go 1 [.c 28, .c 29] (by kernel_rfl) ?_
          refine RunsI.any 8 (by kernel_rfl) (by kernel_rfl) (by kernel_rfl) (Kp ([] : List Nat) (World.drew w68)) ?_
          have h73 := h67.drew
          generalize World.drew w68 = w72 at h73 ⊢
          have hS74 := Kp.refl ([] : List Nat) w72
          refine AnyE.pure 0 46 (.pointer (some ⟨b2, 3, none⟩)) (by kernel_rfl) hS74 (fun _ => by kernel_rfl) ?_
          refine AnyE.loadBox 1 47 0 28 b2 3 (.int .u16 p0_3) [] h73 rfl (by kernel_rfl) hS74 rfl rfl (by kernel_rfl) (by kernel_rfl) ?_
          obtain ⟨t77, hg76, h⟩ := of_bind h
          refine AnyE.call 2 48 (.int .u8 t77) 34 #[.int .u16 p0_3] (by kernel_rfl) hS74 (fun _ => by kernel_rfl) (fun w hk => bits_Lo_34_ok K (fun _ => False) w p0_3 (fun _ hf => hf.elim) hg76) ?_
          refine AnyE.pure 3 49 (.pointer (some ⟨b2, 3, none⟩)) (by kernel_rfl) hS74 (fun _ => by kernel_rfl) ?_
          refine AnyE.loadBox 4 50 0 28 b2 3 (.int .u16 p0_3) [] h73 rfl (by kernel_rfl) hS74 rfl rfl (by kernel_rfl) (by kernel_rfl) ?_
          obtain ⟨t79, hg78, h⟩ := of_bind h
          refine AnyE.call 5 51 (.int .u8 t79) 35 #[.int .u16 p0_3] (by kernel_rfl) hS74 (fun _ => by kernel_rfl) (fun w hk => bits_Hi_35_ok K (fun _ => False) w p0_3 (fun _ hf => hf.elim) hg78) ?_
          refine AnyE.one 6 (by kernel_rfl) (fun w80 hu81 => ?_)
          have h82 := h73.call hu81
          have hS83 := hS74.up hu81
          refine OpE.lit 52 5 [.int .u8 t77, .int .u8 t79] 2 h82 (by kernel_rfl) (by kernel_rfl) ?_
          intro w84 b85 h86 hb87 hn88
          have hn89 := Nat.le_trans hS83.1 hn88
          have hS90 := hS83.up hb87
          refine ⟨hS90, ?_⟩
          refine AnyE.pure 7 5 (.slice (some ⟨b85, 0, none⟩) (([t77, t79] : List Int).length) 2) (by kernel_rfl) hS90 (fun _ => by kernel_rfl) ?_
          refine AnyE.done (by kernel_rfl) (fun w91 hu92 => ?_)
          have h93 := h86.call hu92
          refine RunsI.only [1, 3, 5] [(1, .pointer (some ⟨b2, 0, none⟩)), (3, .slice A64 t66.length c65), (5, .slice (some ⟨b85, 0, none⟩) (([t77, t79] : List Int).length) 2)] (by kernel_rfl) (by kernel_rfl) ?_
          refine RunsI.go 1 [.c 30, .c 31] (by kernel_rfl) ?_
          refine RunsI.region (by kernel_rfl) ?_
          refine RegI.pure 3 [1, 53, 54, 55] [(1, .pointer (some ⟨b2, 0, none⟩)), (53, .slice A64 t66.length c65), (54, .slice (some ⟨b85, 0, none⟩) (([t77, t79] : List Int).length) 2), (55, .pointer (some ⟨b2, 0, none⟩))] (by kernel_rfl) ?_
          refine RegI.op (by kernel_rfl) (OpE.loadBox 56 0 3 b2 0 (.int .i64 p0_0) h93 (by kernel_rfl) (by kernel_rfl) rfl (by kernel_rfl) ?_)
          refine RegI.pure 1 [53, 54, 56, 57] [(53, .slice A64 t66.length c65), (54, .slice (some ⟨b85, 0, none⟩) (([t77, t79] : List Int).length) 2), (56, .int .i64 p0_0), (57, .pointer (some ⟨b2, 1, none⟩))] (by kernel_rfl) ?_
          refine RegI.op (by kernel_rfl) (OpE.loadBox 58 0 5 b2 1 (.int .u8 p0_1) h93 (by kernel_rfl) (by kernel_rfl) rfl (by kernel_rfl) ?_)
          obtain ⟨t98, hg97, h⟩ := of_bind h
          refine RegI.op (by kernel_rfl) (OpE.call 59 (by kernel_rfl) 11 #[.int .i64 p0_0, .int .u8 p0_1] (by kernel_rfl) ((decode_Size_11_ok K _ w91  p0_0 p0_1 h93.old' hg97).mono ?_))
          rintro _ w94 ⟨rfl, hb95⟩
          refine ⟨_, rfl, ?_⟩
          have h96 := h93.call hb95
          have h99 := h96.boxOwn 2 rfl (Rp.int .u8) ([t77, t79] : List Int) (cells_int _ _ _ _) (Nat.le_of_ble_eq_true (by kernel_rfl))
          obtain ⟨hc100, h⟩ := of_cond0 h
          refine RegI.op (by kernel_rfl) (OpE.cutOwn 60 2 27 5 (some t98) h99 (by kernel_rfl) rfl (by kernel_rfl) (by kernel_rfl) hc100 ?_)
          intro A101 c102 h103
          obtain ⟨hc104, h⟩ := of_cond0 h
          refine RegI.op (by kernel_rfl) (OpE.appendRow 61 1 27 5 1 (ys := (cutL ([t77, t79] : List Int) 0 t98)) h103 (by kernel_rfl) (by kernel_rfl) (by kernel_rfl) rfl (h103.rdOwn 2 rfl) hc104 ?_)
          intro w105 A106 c107 h108 hk109
          refine RegI.pure 1 [2] [(2, .slice A106 ((t66 ++ (cutL ([t77, t79] : List Int) 0 t98)).length) c107)] (by kernel_rfl) ?_
          refine RegI.done (by kernel_rfl) ?_
          refine RunsI.ret (.slice A106 ((t66 ++ (cutL ([t77, t79] : List Int) 0 t98)).length) c107) (by kernel_rfl) (by kernel_rfl) ?_
          obtain rfl := Option.some.inj h
          exact ⟨A106, c107, rfl, h108.pick [1] (by decide)⟩
        clear hJ70
        rcases of_cond h with ⟨hc52, h⟩ | ⟨hc52, h⟩
        · skip
          refine RunsI.fix 40 true hc52 (by kernel_rfl) (by kernel_rfl) ?_
          refine RunsI.cond true 25 (by kernel_rfl) ?_
          refine RunsI.region (by kernel_rfl) ?_
          refine RegI.pure 2 [1, 41, 42] [(1, .pointer (some ⟨b2, 0, none⟩)), (41, .slice A43 ((t10 ++ ([p0_1] : List Int)).length) c44), (42, .pointer (some ⟨b2, 2, none⟩))] (by kernel_rfl) ?_
          refine RegI.op (by kernel_rfl) (OpE.loadBox 43 0 5 b2 2 (.int .u8 p0_2) h49 (by kernel_rfl) (by kernel_rfl) rfl (by kernel_rfl) ?_)
          refine RegI.op (by kernel_rfl) (OpE.lit 44 5 [.int .u8 p0_2] 1 h49 (by kernel_rfl) (by kernel_rfl) ?_)
          intro w53 b54 h55 hb56 hn57
          obtain ⟨hc58, h⟩ := of_cond0 h
          refine RegI.op (by kernel_rfl) (OpE.appendBox 45 1 3 27 5 1 ([p0_2] : List Int) 0 h55 (by kernel_rfl) (by kernel_rfl) (by kernel_rfl) rfl rfl rfl (cells_int _ _ _ _) hc58 ?_)
          intro w59 A60 c61 h62 hk63
          refine RegI.pure 1 [1, 3] [(1, .pointer (some ⟨b2, 0, none⟩)), (3, .slice A60 (((t10 ++ ([p0_1] : List Int)) ++ ([p0_2] : List Int)).length) c61)] (by kernel_rfl) ?_
          refine RegI.done (by kernel_rfl) ?_
          refine RunsI.only [1, 3] [(1, .pointer (some ⟨b2, 0, none⟩)), (3, .slice A60 (((t10 ++ ([p0_1] : List Int)) ++ ([p0_2] : List Int)).length) c61)] (by kernel_rfl) (by kernel_rfl) ?_
          exact hj71 ((t10 ++ ([p0_1] : List Int)) ++ ([p0_2] : List Int)) A60 c61 w59 h (h62.pick [0, 1] (by decide))
        · skip
          refine RunsI.fix 40 false hc52 (by kernel_rfl) (by kernel_rfl) ?_
          refine RunsI.cond false 26 (by kernel_rfl) ?_
          refine RunsI.go 1 [.c 27] (by kernel_rfl) ?_
          refine RunsI.only [1, 3] [(1, .pointer (some ⟨b2, 0, none⟩)), (3, .slice A43 ((t10 ++ ([p0_1] : List Int)).length) c44)] (by kernel_rfl) (by kernel_rfl) ?_
          exact hj71 (t10 ++ ([p0_1] : List Int)) A43 c44 w47 h (h49.pick [0, 1] (by decide))
    clear hJ22
    rcases of_cond h with ⟨hc17, h⟩ | ⟨hc17, h⟩
    · skip
      refine RegI.fix 19 true hc17 (by kernel_rfl) (by kernel_rfl) ?_
      refine RegI.pure 5 [1, 3, 15] [(1, .pointer (some ⟨b2, 0, none⟩)), (3, .slice A11 t10.length c12), (15, .bool true)] (by kernel_rfl) ?_
      refine RegI.only [1, 3, 15] [(1, .pointer (some ⟨b2, 0, none⟩)), (3, .slice A11 t10.length c12), (15, .bool true)] (by kernel_rfl) (by kernel_rfl) ?_
      exact hj23 true w6 h (h8.pick [0, 1] (by decide))
    · skip
      refine RegI.fix 19 false hc17 (by kernel_rfl) (by kernel_rfl) ?_
      refine RegI.pure 1 [1, 3, 19, 20] [(1, .pointer (some ⟨b2, 0, none⟩)), (3, .slice A11 t10.length c12), (19, .bool false), (20, .pointer (some ⟨b2, 0, none⟩))] (by kernel_rfl) ?_
      refine RegI.op (by kernel_rfl) (OpE.loadBox 21 0 3 b2 0 (.int .i64 p0_0) h8 (by kernel_rfl) (by kernel_rfl) rfl (by kernel_rfl) ?_)
      refine RegI.pure 3 [1, 3, 15] [(1, .pointer (some ⟨b2, 0, none⟩)), (3, .slice A11 t10.length c12), (15, .bool (p0_0 == 6))] (by kernel_rfl) ?_
      refine RegI.only [1, 3, 15] [(1, .pointer (some ⟨b2, 0, none⟩)), (3, .slice A11 t10.length c12), (15, .bool (p0_0 == 6))] (by kernel_rfl) (by kernel_rfl) ?_
      exact hj23 (p0_0 == 6) w6 h (h8.pick [0, 1] (by decide))
end

/-! ### charabanc/charabanclaw08.awake (function 8) -/
section
def charabanclaw08_awake_8.post (M0 : Nat → Prop) (w0 : World) (r : Bool) : Ending → World → Prop := fun e w => e = .returned (.bool r) ∧ Below w0.heap.size w0 w
def charabanclaw08_awake_8.f (K : Nat) : Option Bool := (decode_Next_15.f K ([221, 54, 5, 7] : List Int)).bind fun yt12 => (decode_Next_15.f K ([221, 253, 33, 52, 18] : List Int)).bind fun yt38 => (decode_Fields_9.f K 94).bind fun yt57 => (decode_All_17.f K ([0, 203] : List Int)).bind fun yt73 => cond yt12.2.2.2.2.2.2 (cond ((yt12.1 == 3) && ((yt12.2.1 == 54) && ((yt12.2.2.1 == 5) && ((yt12.2.2.2.1 == 7) && ((yt12.2.2.2.2.1 == 4) && ((yt12.2.2.2.2.2.1 == 0) && true)))))) (cond yt38.2.2.2.2.2.2 (cond ((yt38.1 == 4) && ((yt38.2.1 == 33) && ((yt38.2.2.1 == 0) && ((yt38.2.2.2.1 == 4660) && ((yt38.2.2.2.2.1 == 5) && ((yt38.2.2.2.2.2.1 == 1) && true)))))) (cond (yt57.1 == 1) (cond (yt57.2.1 == 3) (cond (yt57.2.2.1 == 6) (cond (yt57.2.2.2.1 == 1) (cond (yt57.2.2.2.2 == 1) (cond ((yt73.1.length : Int) == 1) (cond (yt73.2 == 1) ((decode_Bytes_20.f K yt12.1 yt12.2.1 yt12.2.2.1 yt12.2.2.2.1 yt12.2.2.2.2.1 yt12.2.2.2.2.2.1).bind fun t94 => cond ((t94.length : Int) == 4) ((decode_Size_11.f K 2 67).bind fun t104 => cond (t104 == 2) ((decode_Near_13.f K 3 126).bind fun t110 => some t110) (some false)) (some false)) (some false)) (some false)) (some false)) (some false)) (some false)) (some false)) (some false)) (some false)) (some false)) (some false)) (some false)
set_option maxRecDepth 100000 in
theorem charabanclaw08_awake_8_ok (K : Nat) (M0 : Nat → Prop) (w0 : World) (ho : ∀ b, M0 b → b < w0.heap.size) {r : Bool} (h : charabanclaw08_awake_8.f K = some r) :
    Calls Try.prog 8 #[] w0 (charabanclaw08_awake_8.post M0 w0 r) := by
  unfold charabanclaw08_awake_8.f at h
  have h0 : Holds M0 w0 w0 [] := Holds.start ho
  have h0 : Holds M0 w0 w0 [] := h0
  refine calls_of F8 rfl [] (by kernel_rfl) ?_
  refine RunsI.go 1 [.c 1, .c 2] (by kernel_rfl) ?_
  refine RunsI.region (by kernel_rfl) ?_
  refine RegI.pure 1 [] [] (by kernel_rfl) ?_
  refine RegI.done (by kernel_rfl) ?_
  refine RunsI.go 1 [.c 3, .c 4] (by kernel_rfl) ?_
  refine RunsI.region (by kernel_rfl) ?_
  refine RegI.op (by kernel_rfl) (OpE.lit 13 5 [.int .u8 221, .int .u8 54, .int .u8 5, .int .u8 7] 4 h0 (by kernel_rfl) (by kernel_rfl) ?_)
  intro w1 b2 h3 hb4 hn5
  obtain ⟨⟨t12, t13, t14, t15, t16, t17, t18⟩, hg11, h⟩ := of_bind h
  dsimp only at h
  have h6 := h3.boxOwn 0 rfl (Rp.int .u8) ([221, 54, 5, 7] : List Int) (cells_int _ _ _ _) (Nat.le_of_ble_eq_true (by kernel_rfl))
  have h7 := h6.release 0 rfl
  refine RegI.op (by kernel_rfl) (OpE.call 14 (by kernel_rfl) 15 #[.slice (some ⟨b2, 0, none⟩) (([221, 54, 5, 7] : List Int).length) 4] (by kernel_rfl) ((decode_Next_15_ok K _ w1  (some ⟨b2, 0, none⟩) 4 ([221, 54, 5, 7] : List Int) h7.old' (h7.get 0 rfl) hg11).mono ?_))
  rintro _ w8 ⟨rfl, hb9⟩
  refine ⟨_, rfl, ?_⟩
  have h10 := h7.call hb9
  refine RegI.pure 3 [15, 16] [(15, .agg #[.int .i64 t12, .int .u8 t13, .int .u8 t14, .int .u16 t15, .int .i64 t16, .int .i64 t17]), (16, .bool t18)] (by kernel_rfl) ?_
  refine RegI.op (by kernel_rfl) (OpE.box 1 30 [.int .i64 0, .int .u8 0, .int .u8 0, .int .u16 0, .int .i64 0, .int .i64 0] h10 (by kernel_rfl) (by kernel_rfl) ?_)
  intro w19 b20 h21 hb22 hn23
  refine RegI.op (by kernel_rfl) (OpE.storeBox 1 30 b20 0 (.agg #[.int .i64 t12, .int .u8 t13, .int .u8 t14, .int .u16 t15, .int .i64 t16, .int .i64 t17]) [.int .i64 t12, .int .u8 t13, .int .u8 t14, .int .u16 t15, .int .i64 t16, .int .i64 t17] h21 (by kernel_rfl) (by kernel_rfl) rfl (by kernel_rfl) (by kernel_rfl) (by kernel_rfl) ?_)
  intro w24 h25 hk26
  refine RegI.pure 1 [1, 2] [(1, .pointer (some ⟨b20, 0, none⟩)), (2, .bool t18)] (by kernel_rfl) ?_
  refine RegI.done (by kernel_rfl) ?_
  refine RunsI.go 1 [.c 5, .c 6] (by kernel_rfl) ?_
  refine RunsI.region (by kernel_rfl) ?_
  refine RegI.op (by kernel_rfl) (OpE.lit 18 5 [.int .u8 221, .int .u8 253, .int .u8 33, .int .u8 52, .int .u8 18] 5 h25 (by kernel_rfl) (by kernel_rfl) ?_)
  intro w27 b28 h29 hb30 hn31
  obtain ⟨⟨t38, t39, t40, t41, t42, t43, t44⟩, hg37, h⟩ := of_bind h
  dsimp only at h
  have h32 := h29.boxOwn 2 rfl (Rp.int .u8) ([221, 253, 33, 52, 18] : List Int) (cells_int _ _ _ _) (Nat.le_of_ble_eq_true (by kernel_rfl))
  have h33 := h32.release 2 rfl
  refine RegI.op (by kernel_rfl) (OpE.call 19 (by kernel_rfl) 15 #[.slice (some ⟨b28, 0, none⟩) (([221, 253, 33, 52, 18] : List Int).length) 5] (by kernel_rfl) ((decode_Next_15_ok K _ w27  (some ⟨b28, 0, none⟩) 5 ([221, 253, 33, 52, 18] : List Int) h33.old' (h33.get 2 rfl) hg37).mono ?_))
  rintro _ w34 ⟨rfl, hb35⟩
  refine ⟨_, rfl, ?_⟩
  have h36 := h33.call hb35
  refine RegI.pure 3 [1, 2, 20, 21] [(1, .pointer (some ⟨b20, 0, none⟩)), (2, .bool t18), (20, .agg #[.int .i64 t38, .int .u8 t39, .int .u8 t40, .int .u16 t41, .int .i64 t42, .int .i64 t43]), (21, .bool t44)] (by kernel_rfl) ?_
  refine RegI.op (by kernel_rfl) (OpE.box 3 30 [.int .i64 0, .int .u8 0, .int .u8 0, .int .u16 0, .int .i64 0, .int .i64 0] h36 (by kernel_rfl) (by kernel_rfl) ?_)
  intro w45 b46 h47 hb48 hn49
  refine RegI.op (by kernel_rfl) (OpE.storeBox 3 30 b46 0 (.agg #[.int .i64 t38, .int .u8 t39, .int .u8 t40, .int .u16 t41, .int .i64 t42, .int .i64 t43]) [.int .i64 t38, .int .u8 t39, .int .u8 t40, .int .u16 t41, .int .i64 t42, .int .i64 t43] h47 (by kernel_rfl) (by kernel_rfl) rfl (by kernel_rfl) (by kernel_rfl) (by kernel_rfl) ?_)
  intro w50 h51 hk52
  refine RegI.pure 1 [1, 2, 3, 4] [(1, .pointer (some ⟨b20, 0, none⟩)), (2, .bool t18), (3, .pointer (some ⟨b46, 0, none⟩)), (4, .bool t44)] (by kernel_rfl) ?_
  refine RegI.done (by kernel_rfl) ?_
  refine RunsI.go 1 [.c 7, .c 8] (by kernel_rfl) ?_
  refine RunsI.region (by kernel_rfl) ?_
  obtain ⟨⟨t57, t58, t59, t60, t61⟩, hg56, h⟩ := of_bind h
  dsimp only at h
  refine RegI.op (by kernel_rfl) (OpE.call 23 (by kernel_rfl) 9 #[.int .u8 94] (by kernel_rfl) ((decode_Fields_9_ok K _ w50  94 h51.old' hg56).mono ?_))
  rintro _ w53 ⟨rfl, hb54⟩
  refine ⟨_, rfl, ?_⟩
  have h55 := h51.call hb54
  refine RegI.pure 11 [1, 2, 3, 4, 5, 6, 7, 8, 9] [(1, .pointer (some ⟨b20, 0, none⟩)), (2, .bool t18), (3, .pointer (some ⟨b46, 0, none⟩)), (4, .bool t44), (5, .int .i64 t57), (6, .int .i64 t58), (7, .int .i64 t59), (8, .int .i64 t60), (9, .int .i64 t61)] (by kernel_rfl) ?_
  refine RegI.done (by kernel_rfl) ?_
  refine RunsI.go 1 [.c 9, .c 10] (by kernel_rfl) ?_
  refine RunsI.region (by kernel_rfl) ?_
  refine RegI.op (by kernel_rfl) (OpE.lit 30 5 [.int .u8 0, .int .u8 203] 2 h55 (by kernel_rfl) (by kernel_rfl) ?_)
  intro w62 b63 h64 hb65 hn66
  obtain ⟨⟨t73, t77⟩, hg72, h⟩ := of_bind h
  dsimp only at h
  have h67 := h64.boxOwn 4 rfl (Rp.int .u8) ([0, 203] : List Int) (cells_int _ _ _ _) (Nat.le_of_ble_eq_true (by kernel_rfl))
  have h68 := h67.release 4 rfl
  refine RegI.op (by kernel_rfl) (OpE.call 31 (by kernel_rfl) 17 #[.slice (some ⟨b63, 0, none⟩) (([0, 203] : List Int).length) 2] (by kernel_rfl) ((decode_All_17_ok K _ w62  (some ⟨b63, 0, none⟩) 2 ([0, 203] : List Int) h68.old' (h68.get 4 rfl) hg72).mono ?_))
  rintro _ w69 ⟨A74, c75, rfl, hr78⟩
  refine ⟨_, rfl, ?_⟩
  have hb70 := hr78.below
  have h71 := h68.join hr78
  refine RegI.pure 5 [1, 2, 3, 4, 5, 6, 7, 8, 9, 10, 11] [(1, .pointer (some ⟨b20, 0, none⟩)), (2, .bool t18), (3, .pointer (some ⟨b46, 0, none⟩)), (4, .bool t44), (5, .int .i64 t57), (6, .int .i64 t58), (7, .int .i64 t59), (8, .int .i64 t60), (9, .int .i64 t61), (10, .slice A74 t73.length c75), (11, .int .i64 t77)] (by kernel_rfl) ?_
  refine RegI.done (by kernel_rfl) ?_
  refine RunsI.go 1 [.c 11, .c 12] (by kernel_rfl) ?_
  refine RunsI.region (by kernel_rfl) ?_
  refine RegI.pure 2 [1, 3, 4, 5, 6, 7, 8, 9, 10, 11, 35] [(1, .pointer (some ⟨b20, 0, none⟩)), (3, .pointer (some ⟨b46, 0, none⟩)), (4, .bool t44), (5, .int .i64 t57), (6, .int .i64 t58), (7, .int .i64 t59), (8, .int .i64 t60), (9, .int .i64 t61), (10, .slice A74 t73.length c75), (11, .int .i64 t77), (35, .bool t18)] (by kernel_rfl) ?_
  rcases of_cond h with ⟨hc79, h⟩ | ⟨hc79, h⟩
  · skip
    refine RegI.fix 35 true hc79 (by kernel_rfl) (by kernel_rfl) ?_
    refine RegI.op (by kernel_rfl) (OpE.loadBox 36 1 30 b20 0 (.agg #[.int .i64 t12, .int .u8 t13, .int .u8 t14, .int .u16 t15, .int .i64 t16, .int .i64 t17]) h71 (by kernel_rfl) (by kernel_rfl) rfl (by kernel_rfl) ?_)
    refine RegI.pure 1 [1, 3, 4, 5, 6, 7, 8, 9, 10, 11, 35, 36, 37] [(1, .pointer (some ⟨b20, 0, none⟩)), (3, .pointer (some ⟨b46, 0, none⟩)), (4, .bool t44), (5, .int .i64 t57), (6, .int .i64 t58), (7, .int .i64 t59), (8, .int .i64 t60), (9, .int .i64 t61), (10, .slice A74 t73.length c75), (11, .int .i64 t77), (35, .bool true), (36, .agg #[.int .i64 t12, .int .u8 t13, .int .u8 t14, .int .u16 t15, .int .i64 t16, .int .i64 t17]), (37, .agg #[.int .i64 3, .int .u8 54, .int .u8 5, .int .u16 7, .int .i64 4, .int .i64 0])] (by kernel_rfl) ?_
    refine RegI.op (by kernel_rfl) (OpE.run 38 (by kernel_rfl) (run_eqS (neg := false) (t := 30) (x := .agg #[.int .i64 t12, .int .u8 t13, .int .u8 t14, .int .u16 t15, .int .i64 t16, .int .i64 t17]) (y := .agg #[.int .i64 3, .int .u8 54, .int .u8 5, .int .u16 7, .int .i64 4, .int .i64 0]) (b := ((t12 == 3) && ((t13 == 54) && ((t14 == 5) && ((t15 == 7) && ((t16 == 4) && ((t17 == 0) && true))))))) (by kernel_rfl) (by kernel_rfl) (by kernel_rfl) (by kernel_rfl)) ?_)
    refine RegI.pure 2 [1, 3, 4, 5, 6, 7, 8, 9, 10, 11, 40] [(1, .pointer (some ⟨b20, 0, none⟩)), (3, .pointer (some ⟨b46, 0, none⟩)), (4, .bool t44), (5, .int .i64 t57), (6, .int .i64 t58), (7, .int .i64 t59), (8, .int .i64 t60), (9, .int .i64 t61), (10, .slice A74 t73.length c75), (11, .int .i64 t77), (40, .bool ((t12 == 3) && ((t13 == 54) && ((t14 == 5) && ((t15 == 7) && ((t16 == 4) && ((t17 == 0) && true)))))))] (by kernel_rfl) ?_
    rcases of_cond h with ⟨hc80, h⟩ | ⟨hc80, h⟩
    · skip
      refine RegI.fix 40 true hc80 (by kernel_rfl) (by kernel_rfl) ?_
      refine RegI.pure 3 [1, 3, 5, 6, 7, 8, 9, 10, 11, 43] [(1, .pointer (some ⟨b20, 0, none⟩)), (3, .pointer (some ⟨b46, 0, none⟩)), (5, .int .i64 t57), (6, .int .i64 t58), (7, .int .i64 t59), (8, .int .i64 t60), (9, .int .i64 t61), (10, .slice A74 t73.length c75), (11, .int .i64 t77), (43, .bool t44)] (by kernel_rfl) ?_
      rcases of_cond h with ⟨hc81, h⟩ | ⟨hc81, h⟩
      · skip
        refine RegI.fix 43 true hc81 (by kernel_rfl) (by kernel_rfl) ?_
        refine RegI.op (by kernel_rfl) (OpE.loadBox 44 3 30 b46 0 (.agg #[.int .i64 t38, .int .u8 t39, .int .u8 t40, .int .u16 t41, .int .i64 t42, .int .i64 t43]) h71 (by kernel_rfl) (by kernel_rfl) rfl (by kernel_rfl) ?_)
        refine RegI.pure 1 [1, 5, 6, 7, 8, 9, 10, 11, 43, 44, 45] [(1, .pointer (some ⟨b20, 0, none⟩)), (5, .int .i64 t57), (6, .int .i64 t58), (7, .int .i64 t59), (8, .int .i64 t60), (9, .int .i64 t61), (10, .slice A74 t73.length c75), (11, .int .i64 t77), (43, .bool true), (44, .agg #[.int .i64 t38, .int .u8 t39, .int .u8 t40, .int .u16 t41, .int .i64 t42, .int .i64 t43]), (45, .agg #[.int .i64 4, .int .u8 33, .int .u8 0, .int .u16 4660, .int .i64 5, .int .i64 1])] (by kernel_rfl) ?_
        refine RegI.op (by kernel_rfl) (OpE.run 46 (by kernel_rfl) (run_eqS (neg := false) (t := 30) (x := .agg #[.int .i64 t38, .int .u8 t39, .int .u8 t40, .int .u16 t41, .int .i64 t42, .int .i64 t43]) (y := .agg #[.int .i64 4, .int .u8 33, .int .u8 0, .int .u16 4660, .int .i64 5, .int .i64 1]) (b := ((t38 == 4) && ((t39 == 33) && ((t40 == 0) && ((t41 == 4660) && ((t42 == 5) && ((t43 == 1) && true))))))) (by kernel_rfl) (by kernel_rfl) (by kernel_rfl) (by kernel_rfl)) ?_)
        refine RegI.pure 2 [1, 5, 6, 7, 8, 9, 10, 11, 48] [(1, .pointer (some ⟨b20, 0, none⟩)), (5, .int .i64 t57), (6, .int .i64 t58), (7, .int .i64 t59), (8, .int .i64 t60), (9, .int .i64 t61), (10, .slice A74 t73.length c75), (11, .int .i64 t77), (48, .bool ((t38 == 4) && ((t39 == 33) && ((t40 == 0) && ((t41 == 4660) && ((t42 == 5) && ((t43 == 1) && true)))))))] (by kernel_rfl) ?_
        rcases of_cond h with ⟨hc82, h⟩ | ⟨hc82, h⟩
        · skip
          refine RegI.fix 48 true hc82 (by kernel_rfl) (by kernel_rfl) ?_
          refine RegI.pure 4 [1, 6, 7, 8, 9, 10, 11, 52] [(1, .pointer (some ⟨b20, 0, none⟩)), (6, .int .i64 t58), (7, .int .i64 t59), (8, .int .i64 t60), (9, .int .i64 t61), (10, .slice A74 t73.length c75), (11, .int .i64 t77), (52, .bool (t57 == 1))] (by kernel_rfl) ?_
          rcases of_cond h with ⟨hc83, h⟩ | ⟨hc83, h⟩
          · skip
            refine RegI.fix 52 true hc83 (by kernel_rfl) (by kernel_rfl) ?_
            refine RegI.pure 4 [1, 7, 8, 9, 10, 11, 56] [(1, .pointer (some ⟨b20, 0, none⟩)), (7, .int .i64 t59), (8, .int .i64 t60), (9, .int .i64 t61), (10, .slice A74 t73.length c75), (11, .int .i64 t77), (56, .bool (t58 == 3))] (by kernel_rfl) ?_
            rcases of_cond h with ⟨hc84, h⟩ | ⟨hc84, h⟩
            · skip
              refine RegI.fix 56 true hc84 (by kernel_rfl) (by kernel_rfl) ?_
              refine RegI.pure 4 [1, 8, 9, 10, 11, 60] [(1, .pointer (some ⟨b20, 0, none⟩)), (8, .int .i64 t60), (9, .int .i64 t61), (10, .slice A74 t73.length c75), (11, .int .i64 t77), (60, .bool (t59 == 6))] (by kernel_rfl) ?_
              rcases of_cond h with ⟨hc85, h⟩ | ⟨hc85, h⟩
              · skip
                refine RegI.fix 60 true hc85 (by kernel_rfl) (by kernel_rfl) ?_
                refine RegI.pure 4 [1, 9, 10, 11, 64] [(1, .pointer (some ⟨b20, 0, none⟩)), (9, .int .i64 t61), (10, .slice A74 t73.length c75), (11, .int .i64 t77), (64, .bool (t60 == 1))] (by kernel_rfl) ?_
                rcases of_cond h with ⟨hc86, h⟩ | ⟨hc86, h⟩
                · skip
                  refine RegI.fix 64 true hc86 (by kernel_rfl) (by kernel_rfl) ?_
                  refine RegI.pure 4 [1, 10, 11, 68] [(1, .pointer (some ⟨b20, 0, none⟩)), (10, .slice A74 t73.length c75), (11, .int .i64 t77), (68, .bool (t61 == 1))] (by kernel_rfl) ?_
                  rcases of_cond h with ⟨hc87, h⟩ | ⟨hc87, h⟩
                  · skip
                    refine RegI.fix 68 true hc87 (by kernel_rfl) (by kernel_rfl) ?_
                    refine RegI.pure 5 [1, 11, 73] [(1, .pointer (some ⟨b20, 0, none⟩)), (11, .int .i64 t77), (73, .bool ((t73.length : Int) == 1))] (by kernel_rfl) ?_
                    rcases of_cond h with ⟨hc88, h⟩ | ⟨hc88, h⟩
                    · skip
                      refine RegI.fix 73 true hc88 (by kernel_rfl) (by kernel_rfl) ?_
                      refine RegI.pure 4 [1, 77] [(1, .pointer (some ⟨b20, 0, none⟩)), (77, .bool (t77 == 1))] (by kernel_rfl) ?_
                      rcases of_cond h with ⟨hc89, h⟩ | ⟨hc89, h⟩
                      · skip
                        refine RegI.fix 77 true hc89 (by kernel_rfl) (by kernel_rfl) ?_
                        refine RegI.op (by kernel_rfl) (OpE.loadBox 78 1 30 b20 0 (.agg #[.int .i64 t12, .int .u8 t13, .int .u8 t14, .int .u16 t15, .int .i64 t16, .int .i64 t17]) h71 (by kernel_rfl) (by kernel_rfl) rfl (by kernel_rfl) ?_)
                        obtain ⟨t94, hg93, h⟩ := of_bind h
                        refine RegI.op (by kernel_rfl) (OpE.call 79 (by kernel_rfl) 20 #[.agg #[.int .i64 t12, .int .u8 t13, .int .u8 t14, .int .u16 t15, .int .i64 t16, .int .i64 t17]] (by kernel_rfl) ((decode_Bytes_20_ok K _ w69  t12 t13 t14 t15 t16 t17 h71.old' hg93).mono ?_))
                        rintro _ w90 ⟨A95, c96, rfl, hr98⟩
                        refine ⟨_, rfl, ?_⟩
                        have hb91 := hr98.below
                        have h92 := h71.join hr98
                        refine RegI.pure 4 [83] [(83, .bool ((t94.length : Int) == 4))] (by kernel_rfl) ?_
                        rcases of_cond h with ⟨hc99, h⟩ | ⟨hc99, h⟩
                        · skip
                          refine RegI.fix 83 true hc99 (by kernel_rfl) (by kernel_rfl) ?_
                          obtain ⟨t104, hg103, h⟩ := of_bind h
                          refine RegI.op (by kernel_rfl) (OpE.call 84 (by kernel_rfl) 11 #[.int .i64 2, .int .u8 67] (by kernel_rfl) ((decode_Size_11_ok K _ w90  2 67 h92.old' hg103).mono ?_))
                          rintro _ w100 ⟨rfl, hb101⟩
                          refine ⟨_, rfl, ?_⟩
                          have h102 := h92.call hb101
                          refine RegI.pure 3 [87] [(87, .bool (t104 == 2))] (by kernel_rfl) ?_
                          rcases of_cond h with ⟨hc105, h⟩ | ⟨hc105, h⟩
                          · skip
                            refine RegI.fix 87 true hc105 (by kernel_rfl) (by kernel_rfl) ?_
                            obtain ⟨t110, hg109, h⟩ := of_bind h
                            refine RegI.op (by kernel_rfl) (OpE.call 88 (by kernel_rfl) 13 #[.int .i64 3, .int .u8 126] (by kernel_rfl) ((decode_Near_13_ok K _ w100  3 126 h102.old' hg109).mono ?_))
                            rintro _ w106 ⟨rfl, hb107⟩
                            refine ⟨_, rfl, ?_⟩
                            have h108 := h102.call hb107
                            refine RegI.pure 2 [0] [(0, .bool t110)] (by kernel_rfl) ?_
                            refine RegI.done (by kernel_rfl) ?_
                            refine RunsI.ret (.bool t110) (by kernel_rfl) (by kernel_rfl) ?_
                            obtain rfl := Option.some.inj h
                            exact ⟨rfl, h108.below⟩
                          · skip
                            refine RegI.fix 87 false hc105 (by kernel_rfl) (by kernel_rfl) ?_
                            refine RegI.pure 3 [0] [(0, .bool false)] (by kernel_rfl) ?_
                            refine RegI.done (by kernel_rfl) ?_
                            refine RunsI.ret (.bool false) (by kernel_rfl) (by kernel_rfl) ?_
                            obtain rfl := Option.some.inj h
                            exact ⟨rfl, h102.below⟩
                        · skip
                          refine RegI.fix 83 false hc99 (by kernel_rfl) (by kernel_rfl) ?_
                          refine RegI.pure 7 [0] [(0, .bool false)] (by kernel_rfl) ?_
                          refine RegI.done (by kernel_rfl) ?_
                          refine RunsI.ret (.bool false) (by kernel_rfl) (by kernel_rfl) ?_
                          obtain rfl := Option.some.inj h
                          exact ⟨rfl, h92.below⟩
                      · skip
                        refine RegI.fix 77 false hc89 (by kernel_rfl) (by kernel_rfl) ?_
                        refine RegI.pure 13 [0] [(0, .bool false)] (by kernel_rfl) ?_
                        refine RegI.done (by kernel_rfl) ?_
                        refine RunsI.ret (.bool false) (by kernel_rfl) (by kernel_rfl) ?_
                        obtain rfl := Option.some.inj h
                        exact ⟨rfl, h71.below⟩
                    · skip
                      refine RegI.fix 73 false hc88 (by kernel_rfl) (by kernel_rfl) ?_
                      refine RegI.pure 17 [0] [(0, .bool false)] (by kernel_rfl) ?_
                      refine RegI.done (by kernel_rfl) ?_
                      refine RunsI.ret (.bool false) (by kernel_rfl) (by kernel_rfl) ?_
                      obtain rfl := Option.some.inj h
                      exact ⟨rfl, h71.below⟩
                  · skip
                    refine RegI.fix 68 false hc87 (by kernel_rfl) (by kernel_rfl) ?_
                    refine RegI.pure 22 [0] [(0, .bool false)] (by kernel_rfl) ?_
                    refine RegI.done (by kernel_rfl) ?_
                    refine RunsI.ret (.bool false) (by kernel_rfl) (by kernel_rfl) ?_
                    obtain rfl := Option.some.inj h
                    exact ⟨rfl, h71.below⟩
                · skip
                  refine RegI.fix 64 false hc86 (by kernel_rfl) (by kernel_rfl) ?_
                  refine RegI.pure 26 [0] [(0, .bool false)] (by kernel_rfl) ?_
                  refine RegI.done (by kernel_rfl) ?_
                  refine RunsI.ret (.bool false) (by kernel_rfl) (by kernel_rfl) ?_
                  obtain rfl := Option.some.inj h
                  exact ⟨rfl, h71.below⟩
              · skip
                refine RegI.fix 60 false hc85 (by kernel_rfl) (by kernel_rfl) ?_
                refine RegI.pure 30 [0] [(0, .bool false)] (by kernel_rfl) ?_
                refine RegI.done (by kernel_rfl) ?_
                refine RunsI.ret (.bool false) (by kernel_rfl) (by kernel_rfl) ?_
                obtain rfl := Option.some.inj h
                exact ⟨rfl, h71.below⟩
            · skip
              refine RegI.fix 56 false hc84 (by kernel_rfl) (by kernel_rfl) ?_
              refine RegI.pure 34 [0] [(0, .bool false)] (by kernel_rfl) ?_
              refine RegI.done (by kernel_rfl) ?_
              refine RunsI.ret (.bool false) (by kernel_rfl) (by kernel_rfl) ?_
              obtain rfl := Option.some.inj h
              exact ⟨rfl, h71.below⟩
          · skip
            refine RegI.fix 52 false hc83 (by kernel_rfl) (by kernel_rfl) ?_
            refine RegI.pure 38 [0] [(0, .bool false)] (by kernel_rfl) ?_
            refine RegI.done (by kernel_rfl) ?_
            refine RunsI.ret (.bool false) (by kernel_rfl) (by kernel_rfl) ?_
            obtain rfl := Option.some.inj h
            exact ⟨rfl, h71.below⟩
        · skip
          refine RegI.fix 48 false hc82 (by kernel_rfl) (by kernel_rfl) ?_
          refine RegI.pure 42 [0] [(0, .bool false)] (by kernel_rfl) ?_
          refine RegI.done (by kernel_rfl) ?_
          refine RunsI.ret (.bool false) (by kernel_rfl) (by kernel_rfl) ?_
          obtain rfl := Option.some.inj h
          exact ⟨rfl, h71.below⟩
      · skip
        refine RegI.fix 43 false hc81 (by kernel_rfl) (by kernel_rfl) ?_
        refine RegI.pure 47 [0] [(0, .bool false)] (by kernel_rfl) ?_
        refine RegI.done (by kernel_rfl) ?_
        refine RunsI.ret (.bool false) (by kernel_rfl) (by kernel_rfl) ?_
        obtain rfl := Option.some.inj h
        exact ⟨rfl, h71.below⟩
    · skip
      refine RegI.fix 40 false hc80 (by kernel_rfl) (by kernel_rfl) ?_
      refine RegI.pure 50 [0] [(0, .bool false)] (by kernel_rfl) ?_
      refine RegI.done (by kernel_rfl) ?_
      refine RunsI.ret (.bool false) (by kernel_rfl) (by kernel_rfl) ?_
      obtain rfl := Option.some.inj h
      exact ⟨rfl, h71.below⟩
  · skip
    refine RegI.fix 35 false hc79 (by kernel_rfl) (by kernel_rfl) ?_
    refine RegI.pure 55 [0] [(0, .bool false)] (by kernel_rfl) ?_
    refine RegI.done (by kernel_rfl) ?_
    refine RunsI.ret (.bool false) (by kernel_rfl) (by kernel_rfl) ?_
    obtain rfl := Option.some.inj h
    exact ⟨rfl, h71.below⟩
end

/-! ### charabanc/charabancref08.Fields (function 10) -/
section
def charabancref08_Fields_10.post (M0 : Nat → Prop) (w0 : World) (r : Int × Int × Int × Int × Int) : Ending → World → Prop := fun e w => e = .returned (.tuple #[.int .i64 r.1, .int .i64 r.2.1, .int .i64 r.2.2.1, .int .i64 r.2.2.2.1, .int .i64 r.2.2.2.2]) ∧ Below w0.heap.size w0 w
def charabancref08_Fields_10.f (K : Nat) (p0 : Int) : Option (Int × Int × Int × Int × Int) := some ((IntKind.wrap .i64 (Int.tdiv (IntKind.wrap .i64 p0) 64)), (Int.tmod (IntKind.wrap .i64 (Int.tdiv (IntKind.wrap .i64 p0) 8)) 8), (Int.tmod (IntKind.wrap .i64 p0) 8), (Int.tmod (IntKind.wrap .i64 (Int.tdiv (IntKind.wrap .i64 p0) 16)) 4), (Int.tmod (IntKind.wrap .i64 (Int.tdiv (IntKind.wrap .i64 p0) 8)) 2))
set_option maxRecDepth 100000 in
theorem charabancref08_Fields_10_ok (K : Nat) (M0 : Nat → Prop) (w0 : World) (p0 : Int) (ho : ∀ b, M0 b → b < w0.heap.size) {r : Int × Int × Int × Int × Int} (h : charabancref08_Fields_10.f K p0 = some r) :
    Calls Try.prog 10 #[.int .u8 p0] w0 (charabancref08_Fields_10.post M0 w0 r) := by
  unfold charabancref08_Fields_10.f at h
  have h0 : Holds M0 w0 w0 [] := Holds.start ho
  have h0 : Holds M0 w0 w0 [] := h0
  refine calls_of F10 rfl [.int .u8 p0] (by kernel_rfl) ?_
  refine RunsI.go 1 [.c 1, .c 2] (by kernel_rfl) ?_
  refine RunsI.region (by kernel_rfl) ?_
  refine RegI.pure 5 [0] [(0, .int .u8 p0)] (by kernel_rfl) ?_
  refine RegI.done (by kernel_rfl) ?_
  refine RunsI.go 1 [.c 3, .c 4] (by kernel_rfl) ?_
  refine RunsI.region (by kernel_rfl) ?_
  refine RegI.pure 3 [7] [(7, .int .i64 (IntKind.wrap .i64 p0))] (by kernel_rfl) ?_
  refine RegI.done (by kernel_rfl) ?_
  refine RunsI.go 1 [.c 5, .c 6] (by kernel_rfl) ?_
  refine RunsI.region (by kernel_rfl) ?_
  refine RegI.pure 18 [2, 3, 4, 5, 6] [(2, .int .i64 (IntKind.wrap .i64 (Int.tdiv (IntKind.wrap .i64 p0) 64))), (3, .int .i64 (Int.tmod (IntKind.wrap .i64 (Int.tdiv (IntKind.wrap .i64 p0) 8)) 8)), (4, .int .i64 (Int.tmod (IntKind.wrap .i64 p0) 8)), (5, .int .i64 (Int.tmod (IntKind.wrap .i64 (Int.tdiv (IntKind.wrap .i64 p0) 16)) 4)), (6, .int .i64 (Int.tmod (IntKind.wrap .i64 (Int.tdiv (IntKind.wrap .i64 p0) 8)) 2))] (by kernel_rfl) ?_
  refine RegI.done (by kernel_rfl) ?_
  refine RunsI.ret (.tuple #[.int .i64 (IntKind.wrap .i64 (Int.tdiv (IntKind.wrap .i64 p0) 64)), .int .i64 (Int.tmod (IntKind.wrap .i64 (Int.tdiv (IntKind.wrap .i64 p0) 8)) 8), .int .i64 (Int.tmod (IntKind.wrap .i64 p0) 8), .int .i64 (Int.tmod (IntKind.wrap .i64 (Int.tdiv (IntKind.wrap .i64 p0) 16)) 4), .int .i64 (Int.tmod (IntKind.wrap .i64 (Int.tdiv (IntKind.wrap .i64 p0) 8)) 2)]) (by kernel_rfl) (by kernel_rfl) ?_
  obtain rfl := Option.some.inj h
  exact ⟨rfl, h0.below⟩
end

/-! ### charabanc/charabancref08.one (function 24) -/
section
def charabancref08_one_24.post (M0 : Nat → Prop) (w0 : World) (r : Bool) : Ending → World → Prop := fun e w => e = .returned (.bool r) ∧ Below w0.heap.size w0 w
def charabancref08_one_24.f (K : Nat) (p0 : Int) (p1 : Int) (p2 : Int) : Option Bool := cond (p0 == 0) (cond (p2 == 6) (some true) (cond (p2 == 0) (some (decide (p1 ≥ 2))) (some false))) (cond (p0 == 3) (cond (p2 == 6) (some true) (cond (p2 == 3) (cond (p1 == 2) (some true) (some (p1 == 3))) (some false))) (some false))
set_option maxRecDepth 100000 in
theorem charabancref08_one_24_ok (K : Nat) (M0 : Nat → Prop) (w0 : World) (p0 : Int) (p1 : Int) (p2 : Int) (ho : ∀ b, M0 b → b < w0.heap.size) {r : Bool} (h : charabancref08_one_24.f K p0 p1 p2 = some r) :
    Calls Try.prog 24 #[.int .i64 p0, .int .i64 p1, .int .i64 p2] w0 (charabancref08_one_24.post M0 w0 r) := by
  unfold charabancref08_one_24.f at h
  have h0 : Holds M0 w0 w0 [] := Holds.start ho
  have h0 : Holds M0 w0 w0 [] := h0
  refine calls_of F24 rfl [.int .i64 p0, .int .i64 p1, .int .i64 p2] (by kernel_rfl) ?_
  refine RunsI.go 1 [.c 1, .c 2] (by kernel_rfl) ?_
  refine RunsI.region (by kernel_rfl) ?_
  refine RegI.pure 1 [0, 1, 2] [(0, .int .i64 p0), (1, .int .i64 p1), (2, .int .i64 p2)] (by kernel_rfl) ?_
  refine RegI.done (by kernel_rfl) ?_
  refine RunsI.go 2 [.c 4, .c 5, .c 10] (by kernel_rfl) ?_
  refine RunsI.region (by kernel_rfl) ?_
  refine RegI.pure 2 [0, 1, 2, 8] [(0, .int .i64 p0), (1, .int .i64 p1), (2, .int .i64 p2), (8, .bool (p0 == 0))] (by kernel_rfl) ?_
  refine RegI.done (by kernel_rfl) ?_
  rcases of_cond h with ⟨hc1, h⟩ | ⟨hc1, h⟩
  · skip
    refine RunsI.fix 8 true hc1 (by kernel_rfl) (by kernel_rfl) ?_
    refine RunsI.cond true 6 (by kernel_rfl) ?_
    refine RunsI.go 1 [.c 7, .c 8, .c 10] (by kernel_rfl) ?_
    refine RunsI.region (by kernel_rfl) ?_
    refine RegI.pure 3 [1, 2, 11] [(1, .int .i64 p1), (2, .int .i64 p2), (11, .bool (p2 == 6))] (by kernel_rfl) ?_
    rcases of_cond h with ⟨hc2, h⟩ | ⟨hc2, h⟩
    · skip
      refine RegI.fix 11 true hc2 (by kernel_rfl) (by kernel_rfl) ?_
      refine RegI.pure 8 [6] [(6, .bool true)] (by kernel_rfl) ?_
      refine RegI.done (by kernel_rfl) ?_
      refine RunsI.ret (.bool true) (by kernel_rfl) (by kernel_rfl) ?_
      obtain rfl := Option.some.inj h
      exact ⟨rfl, h0.below⟩
    · skip
      refine RegI.fix 11 false hc2 (by kernel_rfl) (by kernel_rfl) ?_
      refine RegI.pure 3 [1, 11, 14] [(1, .int .i64 p1), (11, .bool false), (14, .bool (p2 == 0))] (by kernel_rfl) ?_
      rcases of_cond h with ⟨hc3, h⟩ | ⟨hc3, h⟩
      · skip
        refine RegI.fix 14 true hc3 (by kernel_rfl) (by kernel_rfl) ?_
        refine RegI.pure 5 [6] [(6, .bool (decide (p1 ≥ 2)))] (by kernel_rfl) ?_
        refine RegI.done (by kernel_rfl) ?_
        refine RunsI.ret (.bool (decide (p1 ≥ 2))) (by kernel_rfl) (by kernel_rfl) ?_
        obtain rfl := Option.some.inj h
        exact ⟨rfl, h0.below⟩
      · skip
        refine RegI.fix 14 false hc3 (by kernel_rfl) (by kernel_rfl) ?_
        refine RegI.pure 5 [6] [(6, .bool false)] (by kernel_rfl) ?_
        refine RegI.done (by kernel_rfl) ?_
        refine RunsI.ret (.bool false) (by kernel_rfl) (by kernel_rfl) ?_
        obtain rfl := Option.some.inj h
        exact ⟨rfl, h0.below⟩
  · skip
    refine RunsI.fix 8 false hc1 (by kernel_rfl) (by kernel_rfl) ?_
    refine RunsI.cond false 9 (by kernel_rfl) ?_
    refine RunsI.go 1 [.c 10] (by kernel_rfl) ?_
    refine RunsI.go 1 [.c 11, .c 12] (by kernel_rfl) ?_
    refine RunsI.region (by kernel_rfl) ?_
    refine RegI.pure 3 [1, 2, 21] [(1, .int .i64 p1), (2, .int .i64 p2), (21, .bool (p0 == 3))] (by kernel_rfl) ?_
    rcases of_cond h with ⟨hc4, h⟩ | ⟨hc4, h⟩
    · skip
      refine RegI.fix 21 true hc4 (by kernel_rfl) (by kernel_rfl) ?_
      refine RegI.pure 3 [1, 2, 21, 24] [(1, .int .i64 p1), (2, .int .i64 p2), (21, .bool true), (24, .bool (p2 == 6))] (by kernel_rfl) ?_
      rcases of_cond h with ⟨hc5, h⟩ | ⟨hc5, h⟩
      · skip
        refine RegI.fix 24 true hc5 (by kernel_rfl) (by kernel_rfl) ?_
        refine RegI.pure 13 [6] [(6, .bool true)] (by kernel_rfl) ?_
        refine RegI.done (by kernel_rfl) ?_
        refine RunsI.ret (.bool true) (by kernel_rfl) (by kernel_rfl) ?_
        obtain rfl := Option.some.inj h
        exact ⟨rfl, h0.below⟩
      · skip
        refine RegI.fix 24 false hc5 (by kernel_rfl) (by kernel_rfl) ?_
        refine RegI.pure 3 [1, 21, 24, 27] [(1, .int .i64 p1), (21, .bool true), (24, .bool false), (27, .bool (p2 == 3))] (by kernel_rfl) ?_
        rcases of_cond h with ⟨hc6, h⟩ | ⟨hc6, h⟩
        · skip
          refine RegI.fix 27 true hc6 (by kernel_rfl) (by kernel_rfl) ?_
          refine RegI.pure 3 [1, 21, 24, 27, 30] [(1, .int .i64 p1), (21, .bool true), (24, .bool false), (27, .bool true), (30, .bool (p1 == 2))] (by kernel_rfl) ?_
          rcases of_cond h with ⟨hc7, h⟩ | ⟨hc7, h⟩
          · skip
            refine RegI.fix 30 true hc7 (by kernel_rfl) (by kernel_rfl) ?_
            refine RegI.pure 7 [6] [(6, .bool true)] (by kernel_rfl) ?_
            refine RegI.done (by kernel_rfl) ?_
            refine RunsI.ret (.bool true) (by kernel_rfl) (by kernel_rfl) ?_
            obtain rfl := Option.some.inj h
            exact ⟨rfl, h0.below⟩
          · skip
            refine RegI.fix 30 false hc7 (by kernel_rfl) (by kernel_rfl) ?_
            refine RegI.pure 7 [6] [(6, .bool (p1 == 3))] (by kernel_rfl) ?_
            refine RegI.done (by kernel_rfl) ?_
            refine RunsI.ret (.bool (p1 == 3)) (by kernel_rfl) (by kernel_rfl) ?_
            obtain rfl := Option.some.inj h
            exact ⟨rfl, h0.below⟩
        · skip
          refine RegI.fix 27 false hc6 (by kernel_rfl) (by kernel_rfl) ?_
          refine RegI.pure 10 [6] [(6, .bool false)] (by kernel_rfl) ?_
          refine RegI.done (by kernel_rfl) ?_
          refine RunsI.ret (.bool false) (by kernel_rfl) (by kernel_rfl) ?_
          obtain rfl := Option.some.inj h
          exact ⟨rfl, h0.below⟩
    · skip
      refine RegI.fix 21 false hc4 (by kernel_rfl) (by kernel_rfl) ?_
      refine RegI.pure 16 [6] [(6, .bool false)] (by kernel_rfl) ?_
      refine RegI.done (by kernel_rfl) ?_
      refine RunsI.ret (.bool false) (by kernel_rfl) (by kernel_rfl) ?_
      obtain rfl := Option.some.inj h
      exact ⟨rfl, h0.below⟩
end

/-! ### charabanc/charabancref08.two (function 25) -/
section
def charabancref08_two_25.post (M0 : Nat → Prop) (w0 : World) (r : Bool) : Ending → World → Prop := fun e w => e = .returned (.bool r) ∧ Below w0.heap.size w0 w
def charabancref08_two_25.f (K : Nat) (p0 : Int) (p1 : Int) (p2 : Int) (p3 : Int) (p4 : Int) : Option Bool := cond (p0 == 0) (cond (p2 == 1) (cond (p4 == 0) (some true) (cond (p2 == 2) (some (decide (p1 ≥ 4))) (some false))) (cond (p2 == 2) (some (decide (p1 ≥ 4))) (some false))) (cond (p0 == 3) (cond (p2 == 2) (some true) (cond (p2 == 3) (cond (p1 == 0) (some true) (cond (p2 == 4) (some true) (cond (p2 == 5) (cond (p4 == 1) (some (p3 == 0)) (some false)) (some false)))) (cond (p2 == 4) (some true) (cond (p2 == 5) (cond (p4 == 1) (some (p3 == 0)) (some false)) (some false))))) (some false))
set_option maxRecDepth 100000 in
theorem charabancref08_two_25_ok (K : Nat) (M0 : Nat → Prop) (w0 : World) (p0 : Int) (p1 : Int) (p2 : Int) (p3 : Int) (p4 : Int) (ho : ∀ b, M0 b → b < w0.heap.size) {r : Bool} (h : charabancref08_two_25.f K p0 p1 p2 p3 p4 = some r) :
    Calls Try.prog 25 #[.int .i64 p0, .int .i64 p1, .int .i64 p2, .int .i64 p3, .int .i64 p4] w0 (charabancref08_two_25.post M0 w0 r) := by
  unfold charabancref08_two_25.f at h
  have h0 : Holds M0 w0 w0 [] := Holds.start ho
  have h0 : Holds M0 w0 w0 [] := h0
  refine calls_of F25 rfl [.int .i64 p0, .int .i64 p1, .int .i64 p2, .int .i64 p3, .int .i64 p4] (by kernel_rfl) ?_
  refine RunsI.go 1 [.c 1, .c 2] (by kernel_rfl) ?_
  refine RunsI.region (by kernel_rfl) ?_
  refine RegI.pure 1 [0, 1, 2, 3, 4] [(0, .int .i64 p0), (1, .int .i64 p1), (2, .int .i64 p2), (3, .int .i64 p3), (4, .int .i64 p4)] (by kernel_rfl) ?_
  refine RegI.done (by kernel_rfl) ?_
  refine RunsI.go 2 [.c 4, .c 5, .c 10] (by kernel_rfl) ?_
  refine RunsI.region (by kernel_rfl) ?_
  refine RegI.pure 2 [0, 1, 2, 3, 4, 12] [(0, .int .i64 p0), (1, .int .i64 p1), (2, .int .i64 p2), (3, .int .i64 p3), (4, .int .i64 p4), (12, .bool (p0 == 0))] (by kernel_rfl) ?_
  refine RegI.done (by kernel_rfl) ?_
  rcases of_cond h with ⟨hc1, h⟩ | ⟨hc1, h⟩
  · skip
    refine RunsI.fix 12 true hc1 (by kernel_rfl) (by kernel_rfl) ?_
    refine RunsI.cond true 6 (by kernel_rfl) ?_
    refine RunsI.go 1 [.c 7, .c 8, .c 10] (by kernel_rfl) ?_
    refine RunsI.region (by kernel_rfl) ?_
    refine RegI.pure 3 [1, 2, 4, 15] [(1, .int .i64 p1), (2, .int .i64 p2), (4, .int .i64 p4), (15, .bool (p2 == 1))] (by kernel_rfl) ?_
    rcases of_cond h with ⟨hc2, h⟩ | ⟨hc2, h⟩
    · skip
      refine RegI.fix 15 true hc2 (by kernel_rfl) (by kernel_rfl) ?_
      refine RegI.pure 4 [1, 2, 19] [(1, .int .i64 p1), (2, .int .i64 p2), (19, .bool (p4 == 0))] (by kernel_rfl) ?_
      rcases of_cond h with ⟨hc3, h⟩ | ⟨hc3, h⟩
      · skip
        refine RegI.fix 19 true hc3 (by kernel_rfl) (by kernel_rfl) ?_
        refine RegI.pure 8 [10] [(10, .bool true)] (by kernel_rfl) ?_
        refine RegI.done (by kernel_rfl) ?_
        refine RunsI.ret (.bool true) (by kernel_rfl) (by kernel_rfl) ?_
        obtain rfl := Option.some.inj h
        exact ⟨rfl, h0.below⟩
      · skip
        refine RegI.fix 19 false hc3 (by kernel_rfl) (by kernel_rfl) ?_
        refine RegI.pure 3 [1, 19, 22] [(1, .int .i64 p1), (19, .bool false), (22, .bool (p2 == 2))] (by kernel_rfl) ?_
        rcases of_cond h with ⟨hc4, h⟩ | ⟨hc4, h⟩
        · skip
          refine RegI.fix 22 true hc4 (by kernel_rfl) (by kernel_rfl) ?_
          refine RegI.pure 5 [10] [(10, .bool (decide (p1 ≥ 4)))] (by kernel_rfl) ?_
          refine RegI.done (by kernel_rfl) ?_
          refine RunsI.ret (.bool (decide (p1 ≥ 4))) (by kernel_rfl) (by kernel_rfl) ?_
          obtain rfl := Option.some.inj h
          exact ⟨rfl, h0.below⟩
        · skip
          refine RegI.fix 22 false hc4 (by kernel_rfl) (by kernel_rfl) ?_
          refine RegI.pure 5 [10] [(10, .bool false)] (by kernel_rfl) ?_
          refine RegI.done (by kernel_rfl) ?_
          refine RunsI.ret (.bool false) (by kernel_rfl) (by kernel_rfl) ?_
          obtain rfl := Option.some.inj h
          exact ⟨rfl, h0.below⟩
    · skip
      refine RegI.fix 15 false hc2 (by kernel_rfl) (by kernel_rfl) ?_
      refine RegI.pure 7 [1, 19, 22] [(1, .int .i64 p1), (19, .bool false), (22, .bool (p2 == 2))] (by kernel_rfl) ?_
      rcases of_cond h with ⟨hc5, h⟩ | ⟨hc5, h⟩
      · skip
        refine RegI.fix 22 true hc5 (by kernel_rfl) (by kernel_rfl) ?_
        refine RegI.pure 5 [10] [(10, .bool (decide (p1 ≥ 4)))] (by kernel_rfl) ?_
        refine RegI.done (by kernel_rfl) ?_
        refine RunsI.ret (.bool (decide (p1 ≥ 4))) (by kernel_rfl) (by kernel_rfl) ?_
        obtain rfl := Option.some.inj h
        exact ⟨rfl, h0.below⟩
      · skip
        refine RegI.fix 22 false hc5 (by kernel_rfl) (by kernel_rfl) ?_
        refine RegI.pure 5 [10] [(10, .bool false)] (by kernel_rfl) ?_
        refine RegI.done (by kernel_rfl) ?_
        refine RunsI.ret (.bool false) (by kernel_rfl) (by kernel_rfl) ?_
        obtain rfl := Option.some.inj h
        exact ⟨rfl, h0.below⟩
  · skip
    refine RunsI.fix 12 false hc1 (by kernel_rfl) (by kernel_rfl) ?_
    refine RunsI.cond false 9 (by kernel_rfl) ?_
    refine RunsI.go 1 [.c 10] (by kernel_rfl) ?_
    refine RunsI.go 1 [.c 11, .c 12] (by kernel_rfl) ?_
    refine RunsI.region (by kernel_rfl) ?_
    refine RegI.pure 3 [1, 2, 3, 4, 29] [(1, .int .i64 p1), (2, .int .i64 p2), (3, .int .i64 p3), (4, .int .i64 p4), (29, .bool (p0 == 3))] (by kernel_rfl) ?_
    rcases of_cond h with ⟨hc6, h⟩ | ⟨hc6, h⟩
    · skip
      refine RegI.fix 29 true hc6 (by kernel_rfl) (by kernel_rfl) ?_
      refine RegI.pure 3 [1, 2, 3, 4, 29, 32] [(1, .int .i64 p1), (2, .int .i64 p2), (3, .int .i64 p3), (4, .int .i64 p4), (29, .bool true), (32, .bool (p2 == 2))] (by kernel_rfl) ?_
      rcases of_cond h with ⟨hc7, h⟩ | ⟨hc7, h⟩
      · skip
        refine RegI.fix 32 true hc7 (by kernel_rfl) (by kernel_rfl) ?_
        refine RegI.pure 25 [10] [(10, .bool true)] (by kernel_rfl) ?_
        refine RegI.done (by kernel_rfl) ?_
        refine RunsI.ret (.bool true) (by kernel_rfl) (by kernel_rfl) ?_
        obtain rfl := Option.some.inj h
        exact ⟨rfl, h0.below⟩
      · skip
        refine RegI.fix 32 false hc7 (by kernel_rfl) (by kernel_rfl) ?_
        refine RegI.pure 3 [1, 2, 3, 4, 29, 32, 35] [(1, .int .i64 p1), (2, .int .i64 p2), (3, .int .i64 p3), (4, .int .i64 p4), (29, .bool true), (32, .bool false), (35, .bool (p2 == 3))] (by kernel_rfl) ?_
        rcases of_cond h with ⟨hc8, h⟩ | ⟨hc8, h⟩
        · skip
          refine RegI.fix 35 true hc8 (by kernel_rfl) (by kernel_rfl) ?_
          refine RegI.pure 5 [2, 3, 4, 29, 40] [(2, .int .i64 p2), (3, .int .i64 p3), (4, .int .i64 p4), (29, .bool true), (40, .bool (p1 == 0))] (by kernel_rfl) ?_
          rcases of_cond h with ⟨hc9, h⟩ | ⟨hc9, h⟩
          · skip
            refine RegI.fix 40 true hc9 (by kernel_rfl) (by kernel_rfl) ?_
            refine RegI.pure 17 [10] [(10, .bool true)] (by kernel_rfl) ?_
            refine RegI.done (by kernel_rfl) ?_
            refine RunsI.ret (.bool true) (by kernel_rfl) (by kernel_rfl) ?_
            obtain rfl := Option.some.inj h
            exact ⟨rfl, h0.below⟩
          · skip
            refine RegI.fix 40 false hc9 (by kernel_rfl) (by kernel_rfl) ?_
            refine RegI.pure 4 [2, 3, 4, 29, 44] [(2, .int .i64 p2), (3, .int .i64 p3), (4, .int .i64 p4), (29, .bool true), (44, .bool (p2 == 4))] (by kernel_rfl) ?_
            rcases of_cond h with ⟨hc10, h⟩ | ⟨hc10, h⟩
            · skip
              refine RegI.fix 44 true hc10 (by kernel_rfl) (by kernel_rfl) ?_
              refine RegI.pure 13 [10] [(10, .bool true)] (by kernel_rfl) ?_
              refine RegI.done (by kernel_rfl) ?_
              refine RunsI.ret (.bool true) (by kernel_rfl) (by kernel_rfl) ?_
              obtain rfl := Option.some.inj h
              exact ⟨rfl, h0.below⟩
            · skip
              refine RegI.fix 44 false hc10 (by kernel_rfl) (by kernel_rfl) ?_
              refine RegI.pure 3 [3, 4, 29, 44, 47] [(3, .int .i64 p3), (4, .int .i64 p4), (29, .bool true), (44, .bool false), (47, .bool (p2 == 5))] (by kernel_rfl) ?_
              rcases of_cond h with ⟨hc11, h⟩ | ⟨hc11, h⟩
              · skip
                refine RegI.fix 47 true hc11 (by kernel_rfl) (by kernel_rfl) ?_
                refine RegI.pure 4 [3, 29, 44, 51] [(3, .int .i64 p3), (29, .bool true), (44, .bool false), (51, .bool (p4 == 1))] (by kernel_rfl) ?_
                rcases of_cond h with ⟨hc12, h⟩ | ⟨hc12, h⟩
                · skip
                  refine RegI.fix 51 true hc12 (by kernel_rfl) (by kernel_rfl) ?_
                  refine RegI.pure 6 [10] [(10, .bool (p3 == 0))] (by kernel_rfl) ?_
                  refine RegI.done (by kernel_rfl) ?_
                  refine RunsI.ret (.bool (p3 == 0)) (by kernel_rfl) (by kernel_rfl) ?_
                  obtain rfl := Option.some.inj h
                  exact ⟨rfl, h0.below⟩
                · skip
                  refine RegI.fix 51 false hc12 (by kernel_rfl) (by kernel_rfl) ?_
                  refine RegI.pure 6 [10] [(10, .bool false)] (by kernel_rfl) ?_
                  refine RegI.done (by kernel_rfl) ?_
                  refine RunsI.ret (.bool false) (by kernel_rfl) (by kernel_rfl) ?_
                  obtain rfl := Option.some.inj h
                  exact ⟨rfl, h0.below⟩
              · skip
                refine RegI.fix 47 false hc11 (by kernel_rfl) (by kernel_rfl) ?_
                refine RegI.pure 10 [10] [(10, .bool false)] (by kernel_rfl) ?_
                refine RegI.done (by kernel_rfl) ?_
                refine RunsI.ret (.bool false) (by kernel_rfl) (by kernel_rfl) ?_
                obtain rfl := Option.some.inj h
                exact ⟨rfl, h0.below⟩
        · skip
          refine RegI.fix 35 false hc8 (by kernel_rfl) (by kernel_rfl) ?_
          refine RegI.pure 9 [2, 3, 4, 29, 44] [(2, .int .i64 p2), (3, .int .i64 p3), (4, .int .i64 p4), (29, .bool true), (44, .bool (p2 == 4))] (by kernel_rfl) ?_
          rcases of_cond h with ⟨hc13, h⟩ | ⟨hc13, h⟩
          · skip
            refine RegI.fix 44 true hc13 (by kernel_rfl) (by kernel_rfl) ?_
            refine RegI.pure 13 [10] [(10, .bool true)] (by kernel_rfl) ?_
            refine RegI.done (by kernel_rfl) ?_
            refine RunsI.ret (.bool true) (by kernel_rfl) (by kernel_rfl) ?_
            obtain rfl := Option.some.inj h
            exact ⟨rfl, h0.below⟩
          · skip
            refine RegI.fix 44 false hc13 (by kernel_rfl) (by kernel_rfl) ?_
            refine RegI.pure 3 [3, 4, 29, 44, 47] [(3, .int .i64 p3), (4, .int .i64 p4), (29, .bool true), (44, .bool false), (47, .bool (p2 == 5))] (by kernel_rfl) ?_
            rcases of_cond h with ⟨hc14, h⟩ | ⟨hc14, h⟩
            · skip
              refine RegI.fix 47 true hc14 (by kernel_rfl) (by kernel_rfl) ?_
              refine RegI.pure 4 [3, 29, 44, 51] [(3, .int .i64 p3), (29, .bool true), (44, .bool false), (51, .bool (p4 == 1))] (by kernel_rfl) ?_
              rcases of_cond h with ⟨hc15, h⟩ | ⟨hc15, h⟩
              · skip
                refine RegI.fix 51 true hc15 (by kernel_rfl) (by kernel_rfl) ?_
                refine RegI.pure 6 [10] [(10, .bool (p3 == 0))] (by kernel_rfl) ?_
                refine RegI.done (by kernel_rfl) ?_
                refine RunsI.ret (.bool (p3 == 0)) (by kernel_rfl) (by kernel_rfl) ?_
                obtain rfl := Option.some.inj h
                exact ⟨rfl, h0.below⟩
              · skip
                refine RegI.fix 51 false hc15 (by kernel_rfl) (by kernel_rfl) ?_
                refine RegI.pure 6 [10] [(10, .bool false)] (by kernel_rfl) ?_
                refine RegI.done (by kernel_rfl) ?_
                refine RunsI.ret (.bool false) (by kernel_rfl) (by kernel_rfl) ?_
                obtain rfl := Option.some.inj h
                exact ⟨rfl, h0.below⟩
            · skip
              refine RegI.fix 47 false hc14 (by kernel_rfl) (by kernel_rfl) ?_
              refine RegI.pure 10 [10] [(10, .bool false)] (by kernel_rfl) ?_
              refine RegI.done (by kernel_rfl) ?_
              refine RunsI.ret (.bool false) (by kernel_rfl) (by kernel_rfl) ?_
              obtain rfl := Option.some.inj h
              exact ⟨rfl, h0.below⟩
    · skip
      refine RegI.fix 29 false hc6 (by kernel_rfl) (by kernel_rfl) ?_
      refine RegI.pure 28 [10] [(10, .bool false)] (by kernel_rfl) ?_
      refine RegI.done (by kernel_rfl) ?_
      refine RunsI.ret (.bool false) (by kernel_rfl) (by kernel_rfl) ?_
      obtain rfl := Option.some.inj h
      exact ⟨rfl, h0.below⟩
end

/-! ### charabanc/charabancref08.Size (function 12) -/
section
def charabancref08_Size_12.post (M0 : Nat → Prop) (w0 : World) (r : Int) : Ending → World → Prop := fun e w => e = .returned (.int .i64 r) ∧ Below w0.heap.size w0 w
def charabancref08_Size_12.f (K : Nat) (p0 : Int) (p1 : Int) : Option Int := (charabancref08_Fields_10.f K p1).bind fun yt5 => Let (fun (t12 : Bool) => cond t12 ((charabancref08_one_24.f K yt5.1 yt5.2.1 yt5.2.2.1).bind fun t23 => (charabancref08_two_25.f K yt5.1 yt5.2.1 yt5.2.2.1 yt5.2.2.2.1 yt5.2.2.2.2).bind fun t28 => cond t23 (some 1) (cond t28 (some 2) (some 0))) (cond (p0 == 2) (Let (fun (t33 : Bool) => cond t33 (some 2) (some 0)) (fun j36 => cond (yt5.1 == 1) (j36 (yt5.2.2.1 == 3)) (j36 false))) (some 0))) (fun j15 => cond (p0 == 0) (j15 true) (cond (p0 == 3) (j15 true) (j15 (p0 == 4))))
set_option maxRecDepth 100000 in
theorem charabancref08_Size_12_ok (K : Nat) (M0 : Nat → Prop) (w0 : World) (p0 : Int) (p1 : Int) (ho : ∀ b, M0 b → b < w0.heap.size) {r : Int} (h : charabancref08_Size_12.f K p0 p1 = some r) :
    Calls Try.prog 12 #[.int .i64 p0, .int .u8 p1] w0 (charabancref08_Size_12.post M0 w0 r) := by
  unfold charabancref08_Size_12.f at h
  have h0 : Holds M0 w0 w0 [] := Holds.start ho
  have h0 : Holds M0 w0 w0 [] := h0
  refine calls_of F12 rfl [.int .i64 p0, .int .u8 p1] (by kernel_rfl) ?_
  refine RunsI.go 1 [.c 1, .c 2] (by kernel_rfl) ?_
  refine RunsI.region (by kernel_rfl) ?_
  refine RegI.pure 1 [0, 1] [(0, .int .i64 p0), (1, .int .u8 p1)] (by kernel_rfl) ?_
  refine RegI.done (by kernel_rfl) ?_
  refine RunsI.go 1 [.c 3, .c 4] (by kernel_rfl) ?_
  refine RunsI.region (by kernel_rfl) ?_
  refine RegI.pure 1 [0, 13] [(0, .int .i64 p0), (13, .int .u8 p1)] (by kernel_rfl) ?_
  obtain ⟨⟨t5, t6, t7, t8, t9⟩, hg4, h⟩ := of_bind h
  dsimp only at h
  refine RegI.op (by kernel_rfl) (OpE.call 14 (by kernel_rfl) 10 #[.int .u8 p1] (by kernel_rfl) ((charabancref08_Fields_10_ok K _ w0  p1 h0.old' hg4).mono ?_))
  rintro _ w1 ⟨rfl, hb2⟩
  refine ⟨_, rfl, ?_⟩
  have h3 := h0.call hb2
  refine RegI.pure 11 [0, 5, 6, 7, 8, 9] [(0, .int .i64 p0), (5, .int .i64 t5), (6, .int .i64 t6), (7, .int .i64 t7), (8, .int .i64 t8), (9, .int .i64 t9)] (by kernel_rfl) ?_
  refine RegI.done (by kernel_rfl) ?_
  refine RunsI.go 2 [.c 6, .c 7, .c 49] (by kernel_rfl) ?_
  refine RunsI.region (by kernel_rfl) ?_
  refine RegI.pure 1 [5, 6, 7, 8, 9, 20] [(5, .int .i64 t5), (6, .int .i64 t6), (7, .int .i64 t7), (8, .int .i64 t8), (9, .int .i64 t9), (20, .int .i64 p0)] (by kernel_rfl) ?_
  refine RegI.done (by kernel_rfl) ?_
  refine RunsI.go 3 [.c 10, .c 11, .c 18, .blk 0, .c 49] (by kernel_rfl) ?_
  refine RunsI.region (by kernel_rfl) ?_
  refine RegI.pure 2 [5, 6, 7, 8, 9, 20, 21] [(5, .int .i64 t5), (6, .int .i64 t6), (7, .int .i64 t7), (8, .int .i64 t8), (9, .int .i64 t9), (20, .int .i64 p0), (21, .bool (p0 == 0))] (by kernel_rfl) ?_
  refine RegI.done (by kernel_rfl) ?_
  obtain ⟨j15, hJ16, h⟩ := of_let h
  have hj17 : ∀ (t12 : Bool) (w14 : World), j15 t12 = some r → Holds M0 w0 w14 [] → RunsI F12 [.c 18, .blk 0, .c 49] [(5, .int .i64 t5), (6, .int .i64 t6), (7, .int .i64 t7), (8, .int .i64 t8), (9, .int .i64 t9), (20, .int .i64 p0), (21, .bool t12)] w14 (charabancref08_Size_12.post M0 w0 r) := by
    intro t12 w14 h h13
    rw [hJ16] at h
    clear hJ16
    dsimp only at h
    rcases of_cond h with ⟨hc18, h⟩ | ⟨hc18, h⟩
    · skip
      refine RunsI.fix 21 true hc18 (by kernel_rfl) (by kernel_rfl) ?_
      refine RunsI.cond true 19 (by kernel_rfl) ?_
      refine RunsI.go 1 [.c 20, .c 21, .blk 0, .c 49] (by kernel_rfl) ?_
      refine RunsI.region (by kernel_rfl) ?_
      refine RegI.pure 3 [5, 6, 7, 8, 9, 25, 26, 27] [(5, .int .i64 t5), (6, .int .i64 t6), (7, .int .i64 t7), (8, .int .i64 t8), (9, .int .i64 t9), (25, .int .i64 t5), (26, .int .i64 t6), (27, .int .i64 t7)] (by kernel_rfl) ?_
      obtain ⟨t23, hg22, h⟩ := of_bind h
      refine RegI.op (by kernel_rfl) (OpE.call 28 (by kernel_rfl) 24 #[.int .i64 t5, .int .i64 t6, .int .i64 t7] (by kernel_rfl) ((charabancref08_one_24_ok K _ w14  t5 t6 t7 h13.old' hg22).mono ?_))
      rintro _ w19 ⟨rfl, hb20⟩
      refine ⟨_, rfl, ?_⟩
      have h21 := h13.call hb20
      refine RegI.pure 1 [5, 6, 7, 8, 9, 10] [(5, .int .i64 t5), (6, .int .i64 t6), (7, .int .i64 t7), (8, .int .i64 t8), (9, .int .i64 t9), (10, .bool t23)] (by kernel_rfl) ?_
      refine RegI.done (by kernel_rfl) ?_
      refine RunsI.go 1 [.c 22, .c 23, .blk 0, .c 49] (by kernel_rfl) ?_
      refine RunsI.region (by kernel_rfl) ?_
      refine RegI.pure 5 [10, 29, 30, 31, 32, 33] [(10, .bool t23), (29, .int .i64 t5), (30, .int .i64 t6), (31, .int .i64 t7), (32, .int .i64 t8), (33, .int .i64 t9)] (by kernel_rfl) ?_
      obtain ⟨t28, hg27, h⟩ := of_bind h
      refine RegI.op (by kernel_rfl) (OpE.call 34 (by kernel_rfl) 25 #[.int .i64 t5, .int .i64 t6, .int .i64 t7, .int .i64 t8, .int .i64 t9] (by kernel_rfl) ((charabancref08_two_25_ok K _ w19  t5 t6 t7 t8 t9 h21.old' hg27).mono ?_))
      rintro _ w24 ⟨rfl, hb25⟩
      refine ⟨_, rfl, ?_⟩
      have h26 := h21.call hb25
      refine RegI.pure 1 [10, 11] [(10, .bool t23), (11, .bool t28)] (by kernel_rfl) ?_
      refine RegI.done (by kernel_rfl) ?_
      refine RunsI.go 2 [.c 25, .c 26, .c 31, .blk 0, .c 49] (by kernel_rfl) ?_
      refine RunsI.region (by kernel_rfl) ?_
      refine RegI.pure 1 [11, 35] [(11, .bool t28), (35, .bool t23)] (by kernel_rfl) ?_
      refine RegI.done (by kernel_rfl) ?_
      rcases of_cond h with ⟨hc29, h⟩ | ⟨hc29, h⟩
      · skip
        refine RunsI.fix 35 true hc29 (by kernel_rfl) (by kernel_rfl) ?_
        refine RunsI.cond true 27 (by kernel_rfl) ?_
        refine RunsI.go 1 [.c 28, .c 29, .c 31, .blk 0, .c 49] (by kernel_rfl) ?_
        refine RunsI.region (by kernel_rfl) ?_
        refine RegI.pure 1 [4] [(4, .int .i64 1)] (by kernel_rfl) ?_
        refine RegI.done (by kernel_rfl) ?_
        refine RunsI.ret (.int .i64 1) (by kernel_rfl) (by kernel_rfl) ?_
        obtain rfl := Option.some.inj h
        exact ⟨rfl, h26.below⟩
      · skip
        refine RunsI.fix 35 false hc29 (by kernel_rfl) (by kernel_rfl) ?_
        refine RunsI.cond false 30 (by kernel_rfl) ?_
        refine RunsI.go 1 [.c 31, .blk 0, .c 49] (by kernel_rfl) ?_
        refine RunsI.go 1 [.c 32, .c 33, .blk 0, .c 49] (by kernel_rfl) ?_
        refine RunsI.region (by kernel_rfl) ?_
        refine RegI.pure 1 [36] [(36, .bool t28)] (by kernel_rfl) ?_
        refine RegI.done (by kernel_rfl) ?_
        rcases of_cond h with ⟨hc30, h⟩ | ⟨hc30, h⟩
        · skip
          refine RunsI.fix 36 true hc30 (by kernel_rfl) (by kernel_rfl) ?_
          refine RunsI.cond true 34 (by kernel_rfl) ?_
          refine RunsI.go 1 [.c 35, .c 36, .blk 0, .c 49] (by kernel_rfl) ?_
          refine RunsI.region (by kernel_rfl) ?_
          refine RegI.pure 1 [4] [(4, .int .i64 2)] (by kernel_rfl) ?_
          refine RegI.done (by kernel_rfl) ?_
          refine RunsI.ret (.int .i64 2) (by kernel_rfl) (by kernel_rfl) ?_
          obtain rfl := Option.some.inj h
          exact ⟨rfl, h26.below⟩
        · skip
          refine RunsI.fix 36 false hc30 (by kernel_rfl) (by kernel_rfl) ?_
          refine RunsI.cond false 37 (by kernel_rfl) ?_
          refine RunsI.go 1 [.blk 0, .c 49] (by kernel_rfl) ?_
          refine RunsI.go 2 [.c 50, .c 51] (by kernel_rfl) ?_
          refine RunsI.region (by kernel_rfl) ?_
          refine RegI.pure 1 [4] [(4, .int .i64 0)] (by kernel_rfl) ?_
          refine RegI.done (by kernel_rfl) ?_
          refine RunsI.ret (.int .i64 0) (by kernel_rfl) (by kernel_rfl) ?_
          obtain rfl := Option.some.inj h
          exact ⟨rfl, h26.below⟩
    · skip
      refine RunsI.fix 21 false hc18 (by kernel_rfl) (by kernel_rfl) ?_
      refine RunsI.cond false 38 (by kernel_rfl) ?_
      refine RunsI.go 1 [.c 39, .c 40, .blk 0, .c 49] (by kernel_rfl) ?_
      refine RunsI.region (by kernel_rfl) ?_
      refine RegI.pure 2 [5, 7, 37] [(5, .int .i64 t5), (7, .int .i64 t7), (37, .bool (p0 == 2))] (by kernel_rfl) ?_
      refine RegI.done (by kernel_rfl) ?_
      rcases of_cond h with ⟨hc31, h⟩ | ⟨hc31, h⟩
      · skip
        refine RunsI.fix 37 true hc31 (by kernel_rfl) (by kernel_rfl) ?_
        refine RunsI.cond true 41 (by kernel_rfl) ?_
        refine RunsI.go 1 [.c 42, .c 43, .blk 0, .c 49] (by kernel_rfl) ?_
        refine RunsI.region (by kernel_rfl) ?_
        refine RegI.pure 3 [7, 41] [(7, .int .i64 t7), (41, .bool (t5 == 1))] (by kernel_rfl) ?_
        obtain ⟨j36, hJ37, h⟩ := of_let h
        have hj38 : ∀ (t33 : Bool) (w35 : World), j36 t33 = some r → Holds M0 w0 w35 [] → RegI F12 42 [.c 43, .blk 0, .c 49] 6 [(44, .bool t33)] w35 (charabancref08_Size_12.post M0 w0 r) := by
          intro t33 w35 h h34
          rw [hJ37] at h
          clear hJ37
          dsimp only at h
          refine RegI.done (by kernel_rfl) ?_
          rcases of_cond h with ⟨hc39, h⟩ | ⟨hc39, h⟩
          · skip
            refine RunsI.fix 44 true hc39 (by kernel_rfl) (by kernel_rfl) ?_
            refine RunsI.cond true 44 (by kernel_rfl) ?_
            refine RunsI.go 1 [.c 45, .c 46, .blk 0, .c 49] (by kernel_rfl) ?_
            refine RunsI.region (by kernel_rfl) ?_
            refine RegI.pure 1 [4] [(4, .int .i64 2)] (by kernel_rfl) ?_
            refine RegI.done (by kernel_rfl) ?_
            refine RunsI.ret (.int .i64 2) (by kernel_rfl) (by kernel_rfl) ?_
            obtain rfl := Option.some.inj h
            exact ⟨rfl, h34.below⟩
          · skip
            refine RunsI.fix 44 false hc39 (by kernel_rfl) (by kernel_rfl) ?_
            refine RunsI.cond false 47 (by kernel_rfl) ?_
            refine RunsI.go 1 [.blk 0, .c 49] (by kernel_rfl) ?_
            refine RunsI.go 2 [.c 50, .c 51] (by kernel_rfl) ?_
            refine RunsI.region (by kernel_rfl) ?_
            refine RegI.pure 1 [4] [(4, .int .i64 0)] (by kernel_rfl) ?_
            refine RegI.done (by kernel_rfl) ?_
            refine RunsI.ret (.int .i64 0) (by kernel_rfl) (by kernel_rfl) ?_
            obtain rfl := Option.some.inj h
            exact ⟨rfl, h34.below⟩
        clear hJ37
        rcases of_cond h with ⟨hc32, h⟩ | ⟨hc32, h⟩
        · skip
          refine RegI.fix 41 true hc32 (by kernel_rfl) (by kernel_rfl) ?_
          refine RegI.pure 3 [44] [(44, .bool (t7 == 3))] (by kernel_rfl) ?_
          refine RegI.only [44] [(44, .bool (t7 == 3))] (by kernel_rfl) (by kernel_rfl) ?_
          exact hj38 (t7 == 3) w14 h (h13.pick [] (by decide))
        · skip
          refine RegI.fix 41 false hc32 (by kernel_rfl) (by kernel_rfl) ?_
          refine RegI.pure 3 [44] [(44, .bool false)] (by kernel_rfl) ?_
          refine RegI.only [44] [(44, .bool false)] (by kernel_rfl) (by kernel_rfl) ?_
          exact hj38 false w14 h (h13.pick [] (by decide))
      · skip
        refine RunsI.fix 37 false hc31 (by kernel_rfl) (by kernel_rfl) ?_
        refine RunsI.cond false 48 (by kernel_rfl) ?_
        refine RunsI.go 1 [.blk 0, .c 49] (by kernel_rfl) ?_
        refine RunsI.go 2 [.c 50, .c 51] (by kernel_rfl) ?_
        refine RunsI.region (by kernel_rfl) ?_
        refine RegI.pure 1 [4] [(4, .int .i64 0)] (by kernel_rfl) ?_
        refine RegI.done (by kernel_rfl) ?_
        refine RunsI.ret (.int .i64 0) (by kernel_rfl) (by kernel_rfl) ?_
        obtain rfl := Option.some.inj h
        exact ⟨rfl, h13.below⟩
  clear hJ16
  rcases of_cond h with ⟨hc10, h⟩ | ⟨hc10, h⟩
  · skip
    refine RunsI.fix 21 true hc10 (by kernel_rfl) (by kernel_rfl) ?_
    refine RunsI.cond true 12 (by kernel_rfl) ?_
    refine RunsI.go 1 [.c 18, .blk 0, .c 49] (by kernel_rfl) ?_
    refine RunsI.only [5, 6, 7, 8, 9, 20, 21] [(5, .int .i64 t5), (6, .int .i64 t6), (7, .int .i64 t7), (8, .int .i64 t8), (9, .int .i64 t9), (20, .int .i64 p0), (21, .bool true)] (by kernel_rfl) (by kernel_rfl) ?_
    exact hj17 true w1 h (h3.pick [] (by decide))
  · skip
    refine RunsI.fix 21 false hc10 (by kernel_rfl) (by kernel_rfl) ?_
    refine RunsI.cond false 13 (by kernel_rfl) ?_
    refine RunsI.go 1 [.c 14, .c 15, .c 18, .blk 0, .c 49] (by kernel_rfl) ?_
    refine RunsI.region (by kernel_rfl) ?_
    refine RegI.pure 2 [5, 6, 7, 8, 9, 20, 21] [(5, .int .i64 t5), (6, .int .i64 t6), (7, .int .i64 t7), (8, .int .i64 t8), (9, .int .i64 t9), (20, .int .i64 p0), (21, .bool (p0 == 3))] (by kernel_rfl) ?_
    refine RegI.done (by kernel_rfl) ?_
    rcases of_cond h with ⟨hc11, h⟩ | ⟨hc11, h⟩
    · skip
      refine RunsI.fix 21 true hc11 (by kernel_rfl) (by kernel_rfl) ?_
      refine RunsI.cond true 16 (by kernel_rfl) ?_
      refine RunsI.go 1 [.c 18, .blk 0, .c 49] (by kernel_rfl) ?_
      refine RunsI.only [5, 6, 7, 8, 9, 20, 21] [(5, .int .i64 t5), (6, .int .i64 t6), (7, .int .i64 t7), (8, .int .i64 t8), (9, .int .i64 t9), (20, .int .i64 p0), (21, .bool true)] (by kernel_rfl) (by kernel_rfl) ?_
      exact hj17 true w1 h (h3.pick [] (by decide))
    · skip
      refine RunsI.fix 21 false hc11 (by kernel_rfl) (by kernel_rfl) ?_
      refine RunsI.cond false 17 (by kernel_rfl) ?_
      refine RunsI.region (by kernel_rfl) ?_
      refine RegI.pure 2 [5, 6, 7, 8, 9, 20, 21] [(5, .int .i64 t5), (6, .int .i64 t6), (7, .int .i64 t7), (8, .int .i64 t8), (9, .int .i64 t9), (20, .int .i64 p0), (21, .bool (p0 == 4))] (by kernel_rfl) ?_
      refine RegI.done (by kernel_rfl) ?_
      refine RunsI.only [5, 6, 7, 8, 9, 20, 21] [(5, .int .i64 t5), (6, .int .i64 t6), (7, .int .i64 t7), (8, .int .i64 t8), (9, .int .i64 t9), (20, .int .i64 p0), (21, .bool (p0 == 4))] (by kernel_rfl) (by kernel_rfl) ?_
      exact hj17 (p0 == 4) w1 h (h3.pick [] (by decide))
end

/-! ### charabanc/charabancref08.Near (function 14) -/
section
def charabancref08_Near_14.post (M0 : Nat → Prop) (w0 : World) (r : Bool) : Ending → World → Prop := fun e w => e = .returned (.bool r) ∧ Below w0.heap.size w0 w
def charabancref08_Near_14.f (K : Nat) (p0 : Int) (p1 : Int) : Option Bool := (charabancref08_Fields_10.f K p1).bind fun yt5 => Let (fun (t11 : Bool) => cond t11 (some true) (Let (fun (t19 : Bool) => cond t19 (cond (yt5.1 == 0) (cond (yt5.2.1 == 6) (cond (decide (yt5.2.2.1 ≥ 4)) (some (decide (yt5.2.2.1 ≤ 6))) (some false)) (some false)) (cond (yt5.1 == 1) (some ((yt5.2.2.1 == 6) != (yt5.2.1 == 6))) (cond (yt5.1 == 2) (some (yt5.2.2.1 == 6)) (some false)))) (some false)) (fun j22 => cond (p0 == 3) (j22 true) (j22 (p0 == 4))))) (fun j14 => cond (p0 == 5) (j14 true) (j14 (p0 == 6)))
set_option maxRecDepth 100000 in
theorem charabancref08_Near_14_ok (K : Nat) (M0 : Nat → Prop) (w0 : World) (p0 : Int) (p1 : Int) (ho : ∀ b, M0 b → b < w0.heap.size) {r : Bool} (h : charabancref08_Near_14.f K p0 p1 = some r) :
    Calls Try.prog 14 #[.int .i64 p0, .int .u8 p1] w0 (charabancref08_Near_14.post M0 w0 r) := by
  unfold charabancref08_Near_14.f at h
  have h0 : Holds M0 w0 w0 [] := Holds.start ho
  have h0 : Holds M0 w0 w0 [] := h0
  refine calls_of F14 rfl [.int .i64 p0, .int .u8 p1] (by kernel_rfl) ?_
  refine RunsI.go 1 [.c 1, .c 2] (by kernel_rfl) ?_
  refine RunsI.region (by kernel_rfl) ?_
  refine RegI.pure 1 [0, 1] [(0, .int .i64 p0), (1, .int .u8 p1)] (by kernel_rfl) ?_
  refine RegI.done (by kernel_rfl) ?_
  refine RunsI.go 1 [.c 3, .c 4] (by kernel_rfl) ?_
  refine RunsI.region (by kernel_rfl) ?_
  refine RegI.pure 1 [0, 11] [(0, .int .i64 p0), (11, .int .u8 p1)] (by kernel_rfl) ?_
  obtain ⟨⟨t5, t6, t7, t8, t9⟩, hg4, h⟩ := of_bind h
  dsimp only at h
  refine RegI.op (by kernel_rfl) (OpE.call 12 (by kernel_rfl) 10 #[.int .u8 p1] (by kernel_rfl) ((charabancref08_Fields_10_ok K _ w0  p1 h0.old' hg4).mono ?_))
  rintro _ w1 ⟨rfl, hb2⟩
  refine ⟨_, rfl, ?_⟩
  have h3 := h0.call hb2
  refine RegI.pure 11 [0, 5, 6, 7] [(0, .int .i64 p0), (5, .int .i64 t5), (6, .int .i64 t6), (7, .int .i64 t7)] (by kernel_rfl) ?_
  refine RegI.done (by kernel_rfl) ?_
  refine RunsI.go 2 [.c 6, .c 7, .c 48] (by kernel_rfl) ?_
  refine RunsI.region (by kernel_rfl) ?_
  refine RegI.pure 1 [5, 6, 7, 18] [(5, .int .i64 t5), (6, .int .i64 t6), (7, .int .i64 t7), (18, .int .i64 p0)] (by kernel_rfl) ?_
  refine RegI.done (by kernel_rfl) ?_
  refine RunsI.go 3 [.c 10, .c 11, .c 14, .blk 0, .c 48] (by kernel_rfl) ?_
  refine RunsI.region (by kernel_rfl) ?_
  refine RegI.pure 2 [5, 6, 7, 18, 19] [(5, .int .i64 t5), (6, .int .i64 t6), (7, .int .i64 t7), (18, .int .i64 p0), (19, .bool (p0 == 5))] (by kernel_rfl) ?_
  refine RegI.done (by kernel_rfl) ?_
  obtain ⟨j14, hJ15, h⟩ := of_let h
  have hj16 : ∀ (t11 : Bool) (w13 : World), j14 t11 = some r → Holds M0 w0 w13 [] → RunsI F14 [.c 14, .blk 0, .c 48] [(5, .int .i64 t5), (6, .int .i64 t6), (7, .int .i64 t7), (18, .int .i64 p0), (19, .bool t11)] w13 (charabancref08_Near_14.post M0 w0 r) := by
    intro t11 w13 h h12
    rw [hJ15] at h
    clear hJ15
    dsimp only at h
    rcases of_cond h with ⟨hc17, h⟩ | ⟨hc17, h⟩
    · skip
      refine RunsI.fix 19 true hc17 (by kernel_rfl) (by kernel_rfl) ?_
      refine RunsI.cond true 15 (by kernel_rfl) ?_
      refine RunsI.go 1 [.c 16, .c 17, .blk 0, .c 48] (by kernel_rfl) ?_
      refine RunsI.region (by kernel_rfl) ?_
      refine RegI.pure 1 [4] [(4, .bool true)] (by kernel_rfl) ?_
      refine RegI.done (by kernel_rfl) ?_
      refine RunsI.ret (.bool true) (by kernel_rfl) (by kernel_rfl) ?_
      obtain rfl := Option.some.inj h
      exact ⟨rfl, h12.below⟩
    · skip
      refine RunsI.fix 19 false hc17 (by kernel_rfl) (by kernel_rfl) ?_
      refine RunsI.cond false 18 (by kernel_rfl) ?_
      refine RunsI.go 2 [.c 20, .c 21, .c 24, .blk 0, .c 48] (by kernel_rfl) ?_
      refine RunsI.region (by kernel_rfl) ?_
      refine RegI.pure 2 [5, 6, 7, 18, 22] [(5, .int .i64 t5), (6, .int .i64 t6), (7, .int .i64 t7), (18, .int .i64 p0), (22, .bool (p0 == 3))] (by kernel_rfl) ?_
      refine RegI.done (by kernel_rfl) ?_
      obtain ⟨j22, hJ23, h⟩ := of_let h
      have hj24 : ∀ (t19 : Bool) (w21 : World), j22 t19 = some r → Holds M0 w0 w21 [] → RunsI F14 [.c 24, .blk 0, .c 48] [(5, .int .i64 t5), (6, .int .i64 t6), (7, .int .i64 t7), (22, .bool t19)] w21 (charabancref08_Near_14.post M0 w0 r) := by
        intro t19 w21 h h20
        rw [hJ23] at h
        clear hJ23
        dsimp only at h
        rcases of_cond h with ⟨hc25, h⟩ | ⟨hc25, h⟩
        · skip
          refine RunsI.fix 22 true hc25 (by kernel_rfl) (by kernel_rfl) ?_
          refine RunsI.cond true 25 (by kernel_rfl) ?_
          refine RunsI.go 1 [.c 26, .c 27, .blk 0, .c 48] (by kernel_rfl) ?_
          refine RunsI.region (by kernel_rfl) ?_
          refine RegI.pure 1 [6, 7, 25] [(6, .int .i64 t6), (7, .int .i64 t7), (25, .int .i64 t5)] (by kernel_rfl) ?_
          refine RegI.done (by kernel_rfl) ?_
          refine RunsI.go 2 [.c 29, .c 30, .blk 1, .blk 0, .c 48] (by kernel_rfl) ?_
          refine RunsI.region (by kernel_rfl) ?_
          refine RegI.pure 2 [6, 7, 25, 26] [(6, .int .i64 t6), (7, .int .i64 t7), (25, .int .i64 t5), (26, .bool (t5 == 0))] (by kernel_rfl) ?_
          refine RegI.done (by kernel_rfl) ?_
          rcases of_cond h with ⟨hc26, h⟩ | ⟨hc26, h⟩
          · skip
            refine RunsI.fix 26 true hc26 (by kernel_rfl) (by kernel_rfl) ?_
            refine RunsI.cond true 31 (by kernel_rfl) ?_
            refine RunsI.go 1 [.c 32, .c 33, .blk 1, .blk 0, .c 48] (by kernel_rfl) ?_
            refine RunsI.region (by kernel_rfl) ?_
            refine RegI.pure 3 [7, 30] [(7, .int .i64 t7), (30, .bool (t6 == 6))] (by kernel_rfl) ?_
            rcases of_cond h with ⟨hc27, h⟩ | ⟨hc27, h⟩
            · skip
              refine RegI.fix 30 true hc27 (by kernel_rfl) (by kernel_rfl) ?_
              refine RegI.pure 4 [7, 34] [(7, .int .i64 t7), (34, .bool (decide (t7 ≥ 4)))] (by kernel_rfl) ?_
              rcases of_cond h with ⟨hc28, h⟩ | ⟨hc28, h⟩
              · skip
                refine RegI.fix 34 true hc28 (by kernel_rfl) (by kernel_rfl) ?_
                refine RegI.pure 4 [4] [(4, .bool (decide (t7 ≤ 6)))] (by kernel_rfl) ?_
                refine RegI.done (by kernel_rfl) ?_
                refine RunsI.ret (.bool (decide (t7 ≤ 6))) (by kernel_rfl) (by kernel_rfl) ?_
                obtain rfl := Option.some.inj h
                exact ⟨rfl, h20.below⟩
              · skip
                refine RegI.fix 34 false hc28 (by kernel_rfl) (by kernel_rfl) ?_
                refine RegI.pure 4 [4] [(4, .bool false)] (by kernel_rfl) ?_
                refine RegI.done (by kernel_rfl) ?_
                refine RunsI.ret (.bool false) (by kernel_rfl) (by kernel_rfl) ?_
                obtain rfl := Option.some.inj h
                exact ⟨rfl, h20.below⟩
            · skip
              refine RegI.fix 30 false hc27 (by kernel_rfl) (by kernel_rfl) ?_
              refine RegI.pure 8 [4] [(4, .bool false)] (by kernel_rfl) ?_
              refine RegI.done (by kernel_rfl) ?_
              refine RunsI.ret (.bool false) (by kernel_rfl) (by kernel_rfl) ?_
              obtain rfl := Option.some.inj h
              exact ⟨rfl, h20.below⟩
          · skip
            refine RunsI.fix 26 false hc26 (by kernel_rfl) (by kernel_rfl) ?_
            refine RunsI.cond false 34 (by kernel_rfl) ?_
            refine RunsI.go 1 [.c 35, .c 36, .blk 1, .blk 0, .c 48] (by kernel_rfl) ?_
            refine RunsI.region (by kernel_rfl) ?_
            refine RegI.pure 2 [6, 7, 25, 38] [(6, .int .i64 t6), (7, .int .i64 t7), (25, .int .i64 t5), (38, .bool (t5 == 1))] (by kernel_rfl) ?_
            refine RegI.done (by kernel_rfl) ?_
            rcases of_cond h with ⟨hc29, h⟩ | ⟨hc29, h⟩
            · skip
              refine RunsI.fix 38 true hc29 (by kernel_rfl) (by kernel_rfl) ?_
              refine RunsI.cond true 37 (by kernel_rfl) ?_
              refine RunsI.go 1 [.c 38, .c 39, .blk 1, .blk 0, .c 48] (by kernel_rfl) ?_
              refine RunsI.region (by kernel_rfl) ?_
              refine RegI.pure 6 [4] [(4, .bool ((t7 == 6) != (t6 == 6)))] (by kernel_rfl) ?_
              refine RegI.done (by kernel_rfl) ?_
              refine RunsI.ret (.bool ((t7 == 6) != (t6 == 6))) (by kernel_rfl) (by kernel_rfl) ?_
              obtain rfl := Option.some.inj h
              exact ⟨rfl, h20.below⟩
            · skip
              refine RunsI.fix 38 false hc29 (by kernel_rfl) (by kernel_rfl) ?_
              refine RunsI.cond false 40 (by kernel_rfl) ?_
              refine RunsI.go 1 [.c 41, .c 42, .blk 1, .blk 0, .c 48] (by kernel_rfl) ?_
              refine RunsI.region (by kernel_rfl) ?_
              refine RegI.pure 2 [7, 45] [(7, .int .i64 t7), (45, .bool (t5 == 2))] (by kernel_rfl) ?_
              refine RegI.done (by kernel_rfl) ?_
              rcases of_cond h with ⟨hc30, h⟩ | ⟨hc30, h⟩
              · skip
                refine RunsI.fix 45 true hc30 (by kernel_rfl) (by kernel_rfl) ?_
                refine RunsI.cond true 43 (by kernel_rfl) ?_
                refine RunsI.go 1 [.c 44, .c 45, .blk 1, .blk 0, .c 48] (by kernel_rfl) ?_
                refine RunsI.region (by kernel_rfl) ?_
                refine RegI.pure 3 [4] [(4, .bool (t7 == 6))] (by kernel_rfl) ?_
                refine RegI.done (by kernel_rfl) ?_
                refine RunsI.ret (.bool (t7 == 6)) (by kernel_rfl) (by kernel_rfl) ?_
                obtain rfl := Option.some.inj h
                exact ⟨rfl, h20.below⟩
              · skip
                refine RunsI.fix 45 false hc30 (by kernel_rfl) (by kernel_rfl) ?_
                refine RunsI.cond false 46 (by kernel_rfl) ?_
                refine RunsI.go 1 [.blk 1, .blk 0, .c 48] (by kernel_rfl) ?_
                refine RunsI.go 1 [.blk 0, .c 48] (by kernel_rfl) ?_
                refine RunsI.go 2 [.c 49, .c 50] (by kernel_rfl) ?_
                refine RunsI.region (by kernel_rfl) ?_
                refine RegI.pure 1 [4] [(4, .bool false)] (by kernel_rfl) ?_
                refine RegI.done (by kernel_rfl) ?_
                refine RunsI.ret (.bool false) (by kernel_rfl) (by kernel_rfl) ?_
                obtain rfl := Option.some.inj h
                exact ⟨rfl, h20.below⟩
        · skip
          refine RunsI.fix 22 false hc25 (by kernel_rfl) (by kernel_rfl) ?_
          refine RunsI.cond false 47 (by kernel_rfl) ?_
          refine RunsI.go 1 [.blk 0, .c 48] (by kernel_rfl) ?_
          refine RunsI.go 2 [.c 49, .c 50] (by kernel_rfl) ?_
          refine RunsI.region (by kernel_rfl) ?_
          refine RegI.pure 1 [4] [(4, .bool false)] (by kernel_rfl) ?_
          refine RegI.done (by kernel_rfl) ?_
          refine RunsI.ret (.bool false) (by kernel_rfl) (by kernel_rfl) ?_
          obtain rfl := Option.some.inj h
          exact ⟨rfl, h20.below⟩
      clear hJ23
      rcases of_cond h with ⟨hc18, h⟩ | ⟨hc18, h⟩
      · skip
        refine RunsI.fix 22 true hc18 (by kernel_rfl) (by kernel_rfl) ?_
        refine RunsI.cond true 22 (by kernel_rfl) ?_
        refine RunsI.go 1 [.c 24, .blk 0, .c 48] (by kernel_rfl) ?_
        refine RunsI.only [5, 6, 7, 22] [(5, .int .i64 t5), (6, .int .i64 t6), (7, .int .i64 t7), (22, .bool true)] (by kernel_rfl) (by kernel_rfl) ?_
        exact hj24 true w13 h (h12.pick [] (by decide))
      · skip
        refine RunsI.fix 22 false hc18 (by kernel_rfl) (by kernel_rfl) ?_
        refine RunsI.cond false 23 (by kernel_rfl) ?_
        refine RunsI.region (by kernel_rfl) ?_
        refine RegI.pure 2 [5, 6, 7, 22] [(5, .int .i64 t5), (6, .int .i64 t6), (7, .int .i64 t7), (22, .bool (p0 == 4))] (by kernel_rfl) ?_
        refine RegI.done (by kernel_rfl) ?_
        refine RunsI.only [5, 6, 7, 22] [(5, .int .i64 t5), (6, .int .i64 t6), (7, .int .i64 t7), (22, .bool (p0 == 4))] (by kernel_rfl) (by kernel_rfl) ?_
        exact hj24 (p0 == 4) w13 h (h12.pick [] (by decide))
  clear hJ15
  rcases of_cond h with ⟨hc10, h⟩ | ⟨hc10, h⟩
  · skip
    refine RunsI.fix 19 true hc10 (by kernel_rfl) (by kernel_rfl) ?_
    refine RunsI.cond true 12 (by kernel_rfl) ?_
    refine RunsI.go 1 [.c 14, .blk 0, .c 48] (by kernel_rfl) ?_
    refine RunsI.only [5, 6, 7, 18, 19] [(5, .int .i64 t5), (6, .int .i64 t6), (7, .int .i64 t7), (18, .int .i64 p0), (19, .bool true)] (by kernel_rfl) (by kernel_rfl) ?_
    exact hj16 true w1 h (h3.pick [] (by decide))
  · skip
    refine RunsI.fix 19 false hc10 (by kernel_rfl) (by kernel_rfl) ?_
    refine RunsI.cond false 13 (by kernel_rfl) ?_
    refine RunsI.region (by kernel_rfl) ?_
    refine RegI.pure 2 [5, 6, 7, 18, 19] [(5, .int .i64 t5), (6, .int .i64 t6), (7, .int .i64 t7), (18, .int .i64 p0), (19, .bool (p0 == 6))] (by kernel_rfl) ?_
    refine RegI.done (by kernel_rfl) ?_
    refine RunsI.only [5, 6, 7, 18, 19] [(5, .int .i64 t5), (6, .int .i64 t6), (7, .int .i64 t7), (18, .int .i64 p0), (19, .bool (p0 == 6))] (by kernel_rfl) (by kernel_rfl) ?_
    exact hj16 (p0 == 6) w1 h (h3.pick [] (by decide))
end

/-! ### charabanc/charabancref08.at (function 30) -/
section
def charabancref08_at_30.post (M0 : Nat → Prop) (w0 : World) (r : Int) : Ending → World → Prop := fun e w => e = .returned (.int .u8 r) ∧ Below w0.heap.size w0 w
def charabancref08_at_30.f (K : Nat) (p0 : List Int) (p1 : Int) : Option Int := cond (decide (p1 < (p0.length : Int))) (cond (inR p1 p0.length) (some (rdD p0 p1)) none) (some 0)
set_option maxRecDepth 100000 in
theorem charabancref08_at_30_ok (K : Nat) (M0 : Nat → Prop) (w0 : World) (pA0 : Option Addr) (pc0 : Nat) (p0 : List Int) (p1 : Int) (ho : ∀ b, M0 b → b < w0.heap.size) (hs0 : Sl (Rp.int .u8) w0 M0 (.slice pA0 p0.length pc0) p0) {r : Int} (h : charabancref08_at_30.f K p0 p1 = some r) :
    Calls Try.prog 30 #[.slice pA0 p0.length pc0, .int .i64 p1] w0 (charabancref08_at_30.post M0 w0 r) := by
  unfold charabancref08_at_30.f at h
  have h0 : Holds M0 w0 w0 [] := Holds.start ho
  have h00 := h0.addSl (Rp.int .u8) (.slice pA0 p0.length pc0) p0 (hs0.mono (fun _ _ hm => hm.elim id (fun hm => absurd hm (by simp [mines, sl]))))
  have h0 : Holds M0 w0 w0 [sl (Rp.int .u8) (.slice pA0 p0.length pc0) p0] := h00
  refine calls_of F30 rfl [.slice pA0 p0.length pc0, .int .i64 p1] (by kernel_rfl) ?_
  refine RunsI.go 1 [.c 1, .c 2] (by kernel_rfl) ?_
  refine RunsI.region (by kernel_rfl) ?_
  refine RegI.pure 1 [0, 1] [(0, .slice pA0 p0.length pc0), (1, .int .i64 p1)] (by kernel_rfl) ?_
  refine RegI.done (by kernel_rfl) ?_
  refine RunsI.go 2 [.c 4, .c 5, .c 10] (by kernel_rfl) ?_
  refine RunsI.region (by kernel_rfl) ?_
  refine RegI.pure 4 [0, 1, 8] [(0, .slice pA0 p0.length pc0), (1, .int .i64 p1), (8, .bool (decide (p1 < (p0.length : Int))))] (by kernel_rfl) ?_
  refine RegI.done (by kernel_rfl) ?_
  rcases of_cond h with ⟨hc1, h⟩ | ⟨hc1, h⟩
  · skip
    refine RunsI.fix 8 true hc1 (by kernel_rfl) (by kernel_rfl) ?_
    refine RunsI.cond true 6 (by kernel_rfl) ?_
    refine RunsI.go 1 [.c 7, .c 8, .c 10] (by kernel_rfl) ?_
    refine RunsI.region (by kernel_rfl) ?_
    refine RegI.pure 2 [9, 10] [(9, .slice pA0 p0.length pc0), (10, .int .i64 p1)] (by kernel_rfl) ?_
    obtain ⟨hc2, h⟩ := of_cond0 h
    refine RegI.op (by kernel_rfl) (OpE.idxSl 11 0 27 p1 h0 (by kernel_rfl) rfl (by kernel_rfl) (by kernel_rfl) hc2 ?_)
    intro b3 o4 cs5 hk6 h7
    obtain rfl := hk6
    refine RegI.op (by kernel_rfl) (OpE.loadCel 12 1 5 b3 o4 0 (.int .u8 (rdD p0 p1)) h7 (by kernel_rfl) (by kernel_rfl) rfl (by kernel_rfl) ?_)
    refine RegI.pure 1 [4] [(4, .int .u8 (rdD p0 p1))] (by kernel_rfl) ?_
    refine RegI.done (by kernel_rfl) ?_
    refine RunsI.ret (.int .u8 (rdD p0 p1)) (by kernel_rfl) (by kernel_rfl) ?_
    obtain rfl := Option.some.inj h
    exact ⟨rfl, h7.below⟩
  · skip
    refine RunsI.fix 8 false hc1 (by kernel_rfl) (by kernel_rfl) ?_
    refine RunsI.cond false 9 (by kernel_rfl) ?_
    refine RunsI.go 1 [.c 10] (by kernel_rfl) ?_
    refine RunsI.go 1 [.c 11, .c 12] (by kernel_rfl) ?_
    refine RunsI.region (by kernel_rfl) ?_
    refine RegI.pure 1 [4] [(4, .int .u8 0)] (by kernel_rfl) ?_
    refine RegI.done (by kernel_rfl) ?_
    refine RunsI.ret (.int .u8 0) (by kernel_rfl) (by kernel_rfl) ?_
    obtain rfl := Option.some.inj h
    exact ⟨rfl, h0.below⟩
end

/-! ### charabanc/charabancref08.plane (function 31) -/
section
def charabancref08_plane_31.post (M0 : Nat → Prop) (w0 : World) (r : Int) : Ending → World → Prop := fun e w => e = .returned (.int .i64 r) ∧ Below w0.heap.size w0 w
def charabancref08_plane_31.f (K : Nat) (p0 : Int) (p1 : Int) : Option Int := cond (p1 == 237) (some 2) (Let (fun (t3 : Bool) => cond t3 (some 5) (Let (fun (t11 : Bool) => cond t11 (some 6) (cond (p1 == 203) (some 1) (cond (p0 == 221) (some 3) (cond (p0 == 253) (some 4) (some 0))))) (fun j14 => cond (p1 == 203) (j14 (p0 == 253)) (j14 false)))) (fun j6 => cond (p1 == 203) (j6 (p0 == 221)) (j6 false)))
set_option maxRecDepth 100000 in
theorem charabancref08_plane_31_ok (K : Nat) (M0 : Nat → Prop) (w0 : World) (p0 : Int) (p1 : Int) (ho : ∀ b, M0 b → b < w0.heap.size) {r : Int} (h : charabancref08_plane_31.f K p0 p1 = some r) :
    Calls Try.prog 31 #[.int .u8 p0, .int .u8 p1] w0 (charabancref08_plane_31.post M0 w0 r) := by
  unfold charabancref08_plane_31.f at h
  have h0 : Holds M0 w0 w0 [] := Holds.start ho
  have h0 : Holds M0 w0 w0 [] := h0
  refine calls_of F31 rfl [.int .u8 p0, .int .u8 p1] (by kernel_rfl) ?_
  refine RunsI.go 1 [.c 1, .c 2] (by kernel_rfl) ?_
  refine RunsI.region (by kernel_rfl) ?_
  refine RegI.pure 1 [0, 1] [(0, .int .u8 p0), (1, .int .u8 p1)] (by kernel_rfl) ?_
  refine RegI.done (by kernel_rfl) ?_
  refine RunsI.go 3 [.c 5, .c 6, .blk 0, .c 41] (by kernel_rfl) ?_
  refine RunsI.region (by kernel_rfl) ?_
  refine RegI.pure 3 [0, 1, 5] [(0, .int .u8 p0), (1, .int .u8 p1), (5, .bool (p1 == 237))] (by kernel_rfl) ?_
  refine RegI.done (by kernel_rfl) ?_
  rcases of_cond h with ⟨hc1, h⟩ | ⟨hc1, h⟩
  · skip
    refine RunsI.fix 5 true hc1 (by kernel_rfl) (by kernel_rfl) ?_
    refine RunsI.cond true 7 (by kernel_rfl) ?_
    refine RunsI.go 1 [.c 8, .c 9, .blk 0, .c 41] (by kernel_rfl) ?_
    refine RunsI.region (by kernel_rfl) ?_
    refine RegI.pure 1 [4] [(4, .int .i64 2)] (by kernel_rfl) ?_
    refine RegI.done (by kernel_rfl) ?_
    refine RunsI.ret (.int .i64 2) (by kernel_rfl) (by kernel_rfl) ?_
    obtain rfl := Option.some.inj h
    exact ⟨rfl, h0.below⟩
  · skip
    refine RunsI.fix 5 false hc1 (by kernel_rfl) (by kernel_rfl) ?_
    refine RunsI.cond false 10 (by kernel_rfl) ?_
    refine RunsI.go 1 [.c 11, .c 12, .blk 0, .c 41] (by kernel_rfl) ?_
    refine RunsI.region (by kernel_rfl) ?_
    refine RegI.pure 3 [0, 1, 11] [(0, .int .u8 p0), (1, .int .u8 p1), (11, .bool (p1 == 203))] (by kernel_rfl) ?_
    obtain ⟨j6, hJ7, h⟩ := of_let h
    have hj8 : ∀ (t3 : Bool) (w5 : World), j6 t3 = some r → Holds M0 w0 w5 [] → RegI F31 11 [.c 12, .blk 0, .c 41] 7 [(0, .int .u8 p0), (1, .int .u8 p1), (8, .bool t3)] w5 (charabancref08_plane_31.post M0 w0 r) := by
      intro t3 w5 h h4
      rw [hJ7] at h
      clear hJ7
      dsimp only at h
      refine RegI.done (by kernel_rfl) ?_
      rcases of_cond h with ⟨hc9, h⟩ | ⟨hc9, h⟩
      · skip
        refine RunsI.fix 8 true hc9 (by kernel_rfl) (by kernel_rfl) ?_
        refine RunsI.cond true 13 (by kernel_rfl) ?_
        refine RunsI.go 1 [.c 14, .c 15, .blk 0, .c 41] (by kernel_rfl) ?_
        refine RunsI.region (by kernel_rfl) ?_
        refine RegI.pure 1 [4] [(4, .int .i64 5)] (by kernel_rfl) ?_
        refine RegI.done (by kernel_rfl) ?_
        refine RunsI.ret (.int .i64 5) (by kernel_rfl) (by kernel_rfl) ?_
        obtain rfl := Option.some.inj h
        exact ⟨rfl, h4.below⟩
      · skip
        refine RunsI.fix 8 false hc9 (by kernel_rfl) (by kernel_rfl) ?_
        refine RunsI.cond false 16 (by kernel_rfl) ?_
        refine RunsI.go 1 [.c 17, .c 18, .blk 0, .c 41] (by kernel_rfl) ?_
        refine RunsI.region (by kernel_rfl) ?_
        refine RegI.pure 3 [0, 1, 18] [(0, .int .u8 p0), (1, .int .u8 p1), (18, .bool (p1 == 203))] (by kernel_rfl) ?_
        obtain ⟨j14, hJ15, h⟩ := of_let h
        have hj16 : ∀ (t11 : Bool) (w13 : World), j14 t11 = some r → Holds M0 w0 w13 [] → RegI F31 17 [.c 18, .blk 0, .c 41] 7 [(0, .int .u8 p0), (1, .int .u8 p1), (15, .bool t11)] w13 (charabancref08_plane_31.post M0 w0 r) := by
          intro t11 w13 h h12
          rw [hJ15] at h
          clear hJ15
          dsimp only at h
          refine RegI.done (by kernel_rfl) ?_
          rcases of_cond h with ⟨hc17, h⟩ | ⟨hc17, h⟩
          · skip
            refine RunsI.fix 15 true hc17 (by kernel_rfl) (by kernel_rfl) ?_
            refine RunsI.cond true 19 (by kernel_rfl) ?_
            refine RunsI.go 1 [.c 20, .c 21, .blk 0, .c 41] (by kernel_rfl) ?_
            refine RunsI.region (by kernel_rfl) ?_
            refine RegI.pure 1 [4] [(4, .int .i64 6)] (by kernel_rfl) ?_
            refine RegI.done (by kernel_rfl) ?_
            refine RunsI.ret (.int .i64 6) (by kernel_rfl) (by kernel_rfl) ?_
            obtain rfl := Option.some.inj h
            exact ⟨rfl, h12.below⟩
          · skip
            refine RunsI.fix 15 false hc17 (by kernel_rfl) (by kernel_rfl) ?_
            refine RunsI.cond false 22 (by kernel_rfl) ?_
            refine RunsI.go 1 [.c 23, .c 24, .blk 0, .c 41] (by kernel_rfl) ?_
            refine RunsI.region (by kernel_rfl) ?_
            refine RegI.pure 3 [0, 22] [(0, .int .u8 p0), (22, .bool (p1 == 203))] (by kernel_rfl) ?_
            refine RegI.done (by kernel_rfl) ?_
            rcases of_cond h with ⟨hc18, h⟩ | ⟨hc18, h⟩
            · skip
              refine RunsI.fix 22 true hc18 (by kernel_rfl) (by kernel_rfl) ?_
              refine RunsI.cond true 25 (by kernel_rfl) ?_
              refine RunsI.go 1 [.c 26, .c 27, .blk 0, .c 41] (by kernel_rfl) ?_
              refine RunsI.region (by kernel_rfl) ?_
              refine RegI.pure 1 [4] [(4, .int .i64 1)] (by kernel_rfl) ?_
              refine RegI.done (by kernel_rfl) ?_
              refine RunsI.ret (.int .i64 1) (by kernel_rfl) (by kernel_rfl) ?_
              obtain rfl := Option.some.inj h
              exact ⟨rfl, h12.below⟩
            · skip
              refine RunsI.fix 22 false hc18 (by kernel_rfl) (by kernel_rfl) ?_
              refine RunsI.cond false 28 (by kernel_rfl) ?_
              refine RunsI.go 1 [.c 29, .c 30, .blk 0, .c 41] (by kernel_rfl) ?_
              refine RunsI.region (by kernel_rfl) ?_
              refine RegI.pure 3 [0, 25] [(0, .int .u8 p0), (25, .bool (p0 == 221))] (by kernel_rfl) ?_
              refine RegI.done (by kernel_rfl) ?_
              rcases of_cond h with ⟨hc19, h⟩ | ⟨hc19, h⟩
              · skip
                refine RunsI.fix 25 true hc19 (by kernel_rfl) (by kernel_rfl) ?_
                refine RunsI.cond true 31 (by kernel_rfl) ?_
                refine RunsI.go 1 [.c 32, .c 33, .blk 0, .c 41] (by kernel_rfl) ?_
                refine RunsI.region (by kernel_rfl) ?_
                refine RegI.pure 1 [4] [(4, .int .i64 3)] (by kernel_rfl) ?_
                refine RegI.done (by kernel_rfl) ?_
                refine RunsI.ret (.int .i64 3) (by kernel_rfl) (by kernel_rfl) ?_
                obtain rfl := Option.some.inj h
                exact ⟨rfl, h12.below⟩
              · skip
                refine RunsI.fix 25 false hc19 (by kernel_rfl) (by kernel_rfl) ?_
                refine RunsI.cond false 34 (by kernel_rfl) ?_
                refine RunsI.go 1 [.c 35, .c 36, .blk 0, .c 41] (by kernel_rfl) ?_
                refine RunsI.region (by kernel_rfl) ?_
                refine RegI.pure 3 [28] [(28, .bool (p0 == 253))] (by kernel_rfl) ?_
                refine RegI.done (by kernel_rfl) ?_
                rcases of_cond h with ⟨hc20, h⟩ | ⟨hc20, h⟩
                · skip
                  refine RunsI.fix 28 true hc20 (by kernel_rfl) (by kernel_rfl) ?_
                  refine RunsI.cond true 37 (by kernel_rfl) ?_
                  refine RunsI.go 1 [.c 38, .c 39, .blk 0, .c 41] (by kernel_rfl) ?_
                  refine RunsI.region (by kernel_rfl) ?_
                  refine RegI.pure 1 [4] [(4, .int .i64 4)] (by kernel_rfl) ?_
                  refine RegI.done (by kernel_rfl) ?_
                  refine RunsI.ret (.int .i64 4) (by kernel_rfl) (by kernel_rfl) ?_
                  obtain rfl := Option.some.inj h
                  exact ⟨rfl, h12.below⟩
                · skip
                  refine RunsI.fix 28 false hc20 (by kernel_rfl) (by kernel_rfl) ?_
                  refine RunsI.cond false 40 (by kernel_rfl) ?_
                  refine RunsI.go 1 [.blk 0, .c 41] (by kernel_rfl) ?_
                  refine RunsI.go 2 [.c 42, .c 43] (by kernel_rfl) ?_
                  refine RunsI.region (by kernel_rfl) ?_
                  refine RegI.pure 1 [4] [(4, .int .i64 0)] (by kernel_rfl) ?_
                  refine RegI.done (by kernel_rfl) ?_
                  refine RunsI.ret (.int .i64 0) (by kernel_rfl) (by kernel_rfl) ?_
                  obtain rfl := Option.some.inj h
                  exact ⟨rfl, h12.below⟩
        clear hJ15
        rcases of_cond h with ⟨hc10, h⟩ | ⟨hc10, h⟩
        · skip
          refine RegI.fix 18 true hc10 (by kernel_rfl) (by kernel_rfl) ?_
          refine RegI.pure 4 [0, 1, 15] [(0, .int .u8 p0), (1, .int .u8 p1), (15, .bool (p0 == 253))] (by kernel_rfl) ?_
          refine RegI.only [0, 1, 15] [(0, .int .u8 p0), (1, .int .u8 p1), (15, .bool (p0 == 253))] (by kernel_rfl) (by kernel_rfl) ?_
          exact hj16 (p0 == 253) w5 h (h4.pick [] (by decide))
        · skip
          refine RegI.fix 18 false hc10 (by kernel_rfl) (by kernel_rfl) ?_
          refine RegI.pure 4 [0, 1, 15] [(0, .int .u8 p0), (1, .int .u8 p1), (15, .bool false)] (by kernel_rfl) ?_
          refine RegI.only [0, 1, 15] [(0, .int .u8 p0), (1, .int .u8 p1), (15, .bool false)] (by kernel_rfl) (by kernel_rfl) ?_
          exact hj16 false w5 h (h4.pick [] (by decide))
    clear hJ7
    rcases of_cond h with ⟨hc2, h⟩ | ⟨hc2, h⟩
    · skip
      refine RegI.fix 11 true hc2 (by kernel_rfl) (by kernel_rfl) ?_
      refine RegI.pure 4 [0, 1, 8] [(0, .int .u8 p0), (1, .int .u8 p1), (8, .bool (p0 == 221))] (by kernel_rfl) ?_
      refine RegI.only [0, 1, 8] [(0, .int .u8 p0), (1, .int .u8 p1), (8, .bool (p0 == 221))] (by kernel_rfl) (by kernel_rfl) ?_
      exact hj8 (p0 == 221) w0 h (h0.pick [] (by decide))
    · skip
      refine RegI.fix 11 false hc2 (by kernel_rfl) (by kernel_rfl) ?_
      refine RegI.pure 4 [0, 1, 8] [(0, .int .u8 p0), (1, .int .u8 p1), (8, .bool false)] (by kernel_rfl) ?_
      refine RegI.only [0, 1, 8] [(0, .int .u8 p0), (1, .int .u8 p1), (8, .bool false)] (by kernel_rfl) (by kernel_rfl) ?_
      exact hj8 false w0 h (h0.pick [] (by decide))
end

/-! ### charabanc/charabancref08.Next (function 16) -/
section
def charabancref08_Next_16.post (M0 : Nat → Prop) (w0 : World) (r : Int × Int × Int × Int × Int × Int × Bool) : Ending → World → Prop := fun e w => e = .returned (.tuple #[.agg #[.int .i64 r.1, .int .u8 r.2.1, .int .u8 r.2.2.1, .int .u16 r.2.2.2.1, .int .i64 r.2.2.2.2.1, .int .i64 r.2.2.2.2.2.1], .bool r.2.2.2.2.2.2]) ∧ Below w0.heap.size w0 w
def charabancref08_Next_16.l0 (K : Nat) (p0 : List Int) : Nat → Int → Int → Int → Option (Int × Int × Int)
  | 0, _, _, _ => none
  | k + 1, t15, t16, t18 => (charabancref08_at_30.f K p0 t15).bind fun t23 => Let (fun (t30 : Bool) => cond t30 (cond (decide (t15 > 0)) (cond (inR t15 p0.length) (charabancref08_Next_16.l0 K p0 k (IntKind.wrap .i64 (t15 + 1)) (rdD p0 t15) (IntKind.wrap .i64 (t18 + 1))) none) (cond (inR t15 p0.length) (charabancref08_Next_16.l0 K p0 k (IntKind.wrap .i64 (t15 + 1)) (rdD p0 t15) t18) none)) (some (t15, t16, t18))) (fun j33 => cond (t23 == 221) (j33 true) ((charabancref08_at_30.f K p0 t15).bind fun t29 => j33 (t29 == 253)))
set_option maxRecDepth 100000 in
theorem charabancref08_Next_16.l0_ok (K : Nat) (M0 : Nat → Prop) (w0 : World) (pA0 : Option Addr) (pc0 : Nat) (p0 : List Int) (b14 : Nat) (b17 : Nat) (R : Ending → World → Prop) (x : Int × Int × Int) (hk0 : ∀ (t53 : Int) (t54 : Int) (t55 : Int) (w1 : World), x = (t53, t54, t55) → Holds M0 w0 w1 [sl (Rp.int .u8) (.slice pA0 p0.length pc0) p0, box b14 30 [.int .i64 0, .int .u8 0, .int .u8 0, .int .u16 0, .int .i64 0, .int .i64 0], box b17 30 [.int .i64 0, .int .u8 0, .int .u8 0, .int .u16 0, .int .i64 0, .int .i64 t55]] → RunsI F16 [.c 27] [(0, .slice pA0 p0.length pc0), (2, .pointer (some ⟨b14, 0, none⟩)), (4, .int .i64 t53), (5, .int .u8 t54), (6, .pointer (some ⟨b17, 0, none⟩))] w1 R) :
    ∀ (k : Nat) (t15 : Int) (t16 : Int) (t18 : Int) (w : World), charabancref08_Next_16.l0 K p0 k t15 t16 t18 = some x → Holds M0 w0 w [sl (Rp.int .u8) (.slice pA0 p0.length pc0) p0, box b14 30 [.int .i64 0, .int .u8 0, .int .u8 0, .int .u16 0, .int .i64 0, .int .i64 0], box b17 30 [.int .i64 0, .int .u8 0, .int .u8 0, .int .u16 0, .int .i64 0, .int .i64 t18]] → RunsI F16 [.c 11, .lp 11, .blk 0, .c 27] [(0, .slice pA0 p0.length pc0), (2, .pointer (some ⟨b14, 0, none⟩)), (4, .int .i64 t15), (5, .int .u8 t16), (6, .pointer (some ⟨b17, 0, none⟩))] w R := by
  intro k
  induction k with
  | zero => intro t15 t16 t18 w h hH; exact absurd h (by simp [charabancref08_Next_16.l0])
  | succ k ih =>
    intro t15 t16 t18 w h hH
    rw [charabancref08_Next_16.l0.eq_2] at h
    refine RunsI.go 1 [.c 12, .c 17, .lp 11, .blk 0, .c 27] (by kernel_rfl) ?_
    refine RunsI.go 1 [.c 13, .c 14, .c 17, .lp 11, .blk 0, .c 27] (by kernel_rfl) ?_
    refine RunsI.region (by kernel_rfl) ?_
    refine RegI.pure 2 [0, 2, 4, 5, 6, 10, 11] [(0, .slice pA0 p0.length pc0), (2, .pointer (some ⟨b14, 0, none⟩)), (4, .int .i64 t15), (5, .int .u8 t16), (6, .pointer (some ⟨b17, 0, none⟩)), (10, .slice pA0 p0.length pc0), (11, .int .i64 t15)] (by kernel_rfl) ?_
    obtain ⟨t23, hg22, h⟩ := of_bind h
    refine RegI.op (by kernel_rfl) (OpE.call 12 (by kernel_rfl) 30 #[.slice pA0 p0.length pc0, .int .i64 t15] (by kernel_rfl) ((charabancref08_at_30_ok K _ w  pA0 pc0 p0 t15 hH.old' (hH.get 0 rfl) hg22).mono ?_))
    rintro _ w19 ⟨rfl, hb20⟩
    refine ⟨_, rfl, ?_⟩
    have h21 := hH.call hb20
    refine RegI.pure 2 [0, 2, 4, 5, 6, 14] [(0, .slice pA0 p0.length pc0), (2, .pointer (some ⟨b14, 0, none⟩)), (4, .int .i64 t15), (5, .int .u8 t16), (6, .pointer (some ⟨b17, 0, none⟩)), (14, .bool (t23 == 221))] (by kernel_rfl) ?_
    obtain ⟨j33, hJ34, h⟩ := of_let h
    have hj35 : ∀ (t30 : Bool) (w32 : World), j33 t30 = some x → Holds M0 w0 w32 [sl (Rp.int .u8) (.slice pA0 p0.length pc0) p0, box b14 30 [.int .i64 0, .int .u8 0, .int .u8 0, .int .u16 0, .int .i64 0, .int .i64 0], box b17 30 [.int .i64 0, .int .u8 0, .int .u8 0, .int .u16 0, .int .i64 0, .int .i64 t18]] → RegI F16 13 [.c 14, .c 17, .lp 11, .blk 0, .c 27] 10 [(0, .slice pA0 p0.length pc0), (2, .pointer (some ⟨b14, 0, none⟩)), (4, .int .i64 t15), (5, .int .u8 t16), (6, .pointer (some ⟨b17, 0, none⟩)), (19, .bool t30)] w32 R := by
      intro t30 w32 h h31
      rw [hJ34] at h
      clear hJ34
      dsimp only at h
      refine RegI.done (by kernel_rfl) ?_
      rcases of_cond h with ⟨hc36, h⟩ | ⟨hc36, h⟩
      · skip
        refine RunsI.fix 19 true hc36 (by kernel_rfl) (by kernel_rfl) ?_
        refine RunsI.cond true 15 (by kernel_rfl) ?_
        refine RunsI.go 1 [.c 17, .lp 11, .blk 0, .c 27] (by kernel_rfl) ?_
        refine RunsI.go 3 [.c 20, .c 21, .c 24, .blk 1, .lp 11, .blk 0, .c 27] (by kernel_rfl) ?_
        refine RunsI.region (by kernel_rfl) ?_
        refine RegI.pure 2 [0, 2, 4, 6, 21] [(0, .slice pA0 p0.length pc0), (2, .pointer (some ⟨b14, 0, none⟩)), (4, .int .i64 t15), (6, .pointer (some ⟨b17, 0, none⟩)), (21, .bool (decide (t15 > 0)))] (by kernel_rfl) ?_
        refine RegI.done (by kernel_rfl) ?_
        rcases of_cond h with ⟨hc37, h⟩ | ⟨hc37, h⟩
        · skip
          refine RunsI.fix 21 true hc37 (by kernel_rfl) (by kernel_rfl) ?_
          refine RunsI.cond true 22 (by kernel_rfl) ?_
          refine RunsI.region (by kernel_rfl) ?_
          refine RegI.pure 1 [0, 2, 4, 6, 22] [(0, .slice pA0 p0.length pc0), (2, .pointer (some ⟨b14, 0, none⟩)), (4, .int .i64 t15), (6, .pointer (some ⟨b17, 0, none⟩)), (22, .pointer (some ⟨b17, 5, none⟩))] (by kernel_rfl) ?_
          refine RegI.op (by kernel_rfl) (OpE.loadBox 23 2 3 b17 5 (.int .i64 t18) h31 (by kernel_rfl) (by kernel_rfl) rfl (by kernel_rfl) ?_)
          refine RegI.pure 2 [0, 2, 4, 6, 24, 25] [(0, .slice pA0 p0.length pc0), (2, .pointer (some ⟨b14, 0, none⟩)), (4, .int .i64 t15), (6, .pointer (some ⟨b17, 0, none⟩)), (24, .int .i64 (IntKind.wrap .i64 (t18 + 1))), (25, .pointer (some ⟨b17, 5, none⟩))] (by kernel_rfl) ?_
          refine RegI.op (by kernel_rfl) (OpE.storeBox 2 3 b17 5 (.int .i64 (IntKind.wrap .i64 (t18 + 1))) [.int .i64 0, .int .u8 0, .int .u8 0, .int .u16 0, .int .i64 0, .int .i64 (IntKind.wrap .i64 (t18 + 1))] h31 (by kernel_rfl) (by kernel_rfl) rfl (by kernel_rfl) (by kernel_rfl) (by kernel_rfl) ?_)
          intro w38 h39 hk40
          refine RegI.done (by kernel_rfl) ?_
          refine RunsI.go 1 [.c 25, .c 26, .blk 1, .lp 11, .blk 0, .c 27] (by kernel_rfl) ?_
          refine RunsI.region (by kernel_rfl) ?_
          refine RegI.pure 2 [0, 2, 4, 6, 26, 27] [(0, .slice pA0 p0.length pc0), (2, .pointer (some ⟨b14, 0, none⟩)), (4, .int .i64 t15), (6, .pointer (some ⟨b17, 0, none⟩)), (26, .slice pA0 p0.length pc0), (27, .int .i64 t15)] (by kernel_rfl) ?_
          obtain ⟨hc41, h⟩ := of_cond0 h
          refine RegI.op (by kernel_rfl) (OpE.idxSl 28 0 27 t15 h39 (by kernel_rfl) rfl (by kernel_rfl) (by kernel_rfl) hc41 ?_)
          intro b42 o43 cs44 hk45 h46
          obtain rfl := hk45
          refine RegI.op (by kernel_rfl) (OpE.loadCel 29 3 5 b42 o43 0 (.int .u8 (rdD p0 t15)) h46 (by kernel_rfl) (by kernel_rfl) rfl (by kernel_rfl) ?_)
          refine RegI.pure 1 [0, 2, 4, 5, 6] [(0, .slice pA0 p0.length pc0), (2, .pointer (some ⟨b14, 0, none⟩)), (4, .int .i64 t15), (5, .int .u8 (rdD p0 t15)), (6, .pointer (some ⟨b17, 0, none⟩))] (by kernel_rfl) ?_
          refine RegI.done (by kernel_rfl) ?_
          refine RunsI.region (by kernel_rfl) ?_
          refine RegI.pure 3 [0, 2, 4, 5, 6] [(0, .slice pA0 p0.length pc0), (2, .pointer (some ⟨b14, 0, none⟩)), (4, .int .i64 (IntKind.wrap .i64 (t15 + 1))), (5, .int .u8 (rdD p0 t15)), (6, .pointer (some ⟨b17, 0, none⟩))] (by kernel_rfl) ?_
          refine RegI.done (by kernel_rfl) ?_
          refine RunsI.go 2 [.c 11, .lp 11, .blk 0, .c 27] (by kernel_rfl) ?_
          refine RunsI.only [0, 2, 4, 5, 6] [(0, .slice pA0 p0.length pc0), (2, .pointer (some ⟨b14, 0, none⟩)), (4, .int .i64 (IntKind.wrap .i64 (t15 + 1))), (5, .int .u8 (rdD p0 t15)), (6, .pointer (some ⟨b17, 0, none⟩))] (by kernel_rfl) (by kernel_rfl) ?_
          exact ih (IntKind.wrap .i64 (t15 + 1)) (rdD p0 t15) (IntKind.wrap .i64 (t18 + 1)) w38 h (h46.pick [0, 1, 2] (by decide))
        · skip
          refine RunsI.fix 21 false hc37 (by kernel_rfl) (by kernel_rfl) ?_
          refine RunsI.cond false 23 (by kernel_rfl) ?_
          refine RunsI.go 1 [.c 24, .blk 1, .lp 11, .blk 0, .c 27] (by kernel_rfl) ?_
          refine RunsI.go 1 [.c 25, .c 26, .blk 1, .lp 11, .blk 0, .c 27] (by kernel_rfl) ?_
          refine RunsI.region (by kernel_rfl) ?_
          refine RegI.pure 2 [0, 2, 4, 6, 26, 27] [(0, .slice pA0 p0.length pc0), (2, .pointer (some ⟨b14, 0, none⟩)), (4, .int .i64 t15), (6, .pointer (some ⟨b17, 0, none⟩)), (26, .slice pA0 p0.length pc0), (27, .int .i64 t15)] (by kernel_rfl) ?_
          obtain ⟨hc47, h⟩ := of_cond0 h
          refine RegI.op (by kernel_rfl) (OpE.idxSl 28 0 27 t15 h31 (by kernel_rfl) rfl (by kernel_rfl) (by kernel_rfl) hc47 ?_)
          intro b48 o49 cs50 hk51 h52
          obtain rfl := hk51
          refine RegI.op (by kernel_rfl) (OpE.loadCel 29 3 5 b48 o49 0 (.int .u8 (rdD p0 t15)) h52 (by kernel_rfl) (by kernel_rfl) rfl (by kernel_rfl) ?_)
          refine RegI.pure 1 [0, 2, 4, 5, 6] [(0, .slice pA0 p0.length pc0), (2, .pointer (some ⟨b14, 0, none⟩)), (4, .int .i64 t15), (5, .int .u8 (rdD p0 t15)), (6, .pointer (some ⟨b17, 0, none⟩))] (by kernel_rfl) ?_
          refine RegI.done (by kernel_rfl) ?_
          refine RunsI.region (by kernel_rfl) ?_
          refine RegI.pure 3 [0, 2, 4, 5, 6] [(0, .slice pA0 p0.length pc0), (2, .pointer (some ⟨b14, 0, none⟩)), (4, .int .i64 (IntKind.wrap .i64 (t15 + 1))), (5, .int .u8 (rdD p0 t15)), (6, .pointer (some ⟨b17, 0, none⟩))] (by kernel_rfl) ?_
          refine RegI.done (by kernel_rfl) ?_
          refine RunsI.go 2 [.c 11, .lp 11, .blk 0, .c 27] (by kernel_rfl) ?_
          refine RunsI.only [0, 2, 4, 5, 6] [(0, .slice pA0 p0.length pc0), (2, .pointer (some ⟨b14, 0, none⟩)), (4, .int .i64 (IntKind.wrap .i64 (t15 + 1))), (5, .int .u8 (rdD p0 t15)), (6, .pointer (some ⟨b17, 0, none⟩))] (by kernel_rfl) (by kernel_rfl) ?_
          exact ih (IntKind.wrap .i64 (t15 + 1)) (rdD p0 t15) t18 w32 h (h52.pick [0, 1, 2] (by decide))
      · skip
        refine RunsI.fix 19 false hc36 (by kernel_rfl) (by kernel_rfl) ?_
        refine RunsI.cond false 16 (by kernel_rfl) ?_
        refine RunsI.go 1 [.c 27] (by kernel_rfl) ?_
        refine RunsI.only [0, 2, 4, 5, 6] [(0, .slice pA0 p0.length pc0), (2, .pointer (some ⟨b14, 0, none⟩)), (4, .int .i64 t15), (5, .int .u8 t16), (6, .pointer (some ⟨b17, 0, none⟩))] (by kernel_rfl) (by kernel_rfl) ?_
        exact hk0 t15 t16 t18 w32 (Option.some.inj h).symm (h31.pick [0, 1, 2] (by decide))
    clear hJ34
    rcases of_cond h with ⟨hc24, h⟩ | ⟨hc24, h⟩
    · skip
      refine RegI.fix 14 true hc24 (by kernel_rfl) (by kernel_rfl) ?_
      refine RegI.pure 5 [0, 2, 4, 5, 6, 15, 16, 17, 18, 19] [(0, .slice pA0 p0.length pc0), (2, .pointer (some ⟨b14, 0, none⟩)), (4, .int .i64 t15), (5, .int .u8 t16), (6, .pointer (some ⟨b17, 0, none⟩)), (15, undef), (16, undef), (17, undef), (18, undef), (19, .bool true)] (by kernel_rfl) ?_
      refine RegI.only [0, 2, 4, 5, 6, 19] [(0, .slice pA0 p0.length pc0), (2, .pointer (some ⟨b14, 0, none⟩)), (4, .int .i64 t15), (5, .int .u8 t16), (6, .pointer (some ⟨b17, 0, none⟩)), (19, .bool true)] (by kernel_rfl) (by kernel_rfl) ?_
      exact hj35 true w19 h (h21.pick [0, 1, 2] (by decide))
    · skip
      refine RegI.fix 14 false hc24 (by kernel_rfl) (by kernel_rfl) ?_
      refine RegI.pure 2 [0, 2, 4, 5, 6, 14, 15, 16] [(0, .slice pA0 p0.length pc0), (2, .pointer (some ⟨b14, 0, none⟩)), (4, .int .i64 t15), (5, .int .u8 t16), (6, .pointer (some ⟨b17, 0, none⟩)), (14, .bool false), (15, .slice pA0 p0.length pc0), (16, .int .i64 t15)] (by kernel_rfl) ?_
      obtain ⟨t29, hg28, h⟩ := of_bind h
      refine RegI.op (by kernel_rfl) (OpE.call 17 (by kernel_rfl) 30 #[.slice pA0 p0.length pc0, .int .i64 t15] (by kernel_rfl) ((charabancref08_at_30_ok K _ w19  pA0 pc0 p0 t15 h21.old' (h21.get 0 rfl) hg28).mono ?_))
      rintro _ w25 ⟨rfl, hb26⟩
      refine ⟨_, rfl, ?_⟩
      have h27 := h21.call hb26
      refine RegI.pure 2 [0, 2, 4, 5, 6, 15, 16, 17, 18, 19] [(0, .slice pA0 p0.length pc0), (2, .pointer (some ⟨b14, 0, none⟩)), (4, .int .i64 t15), (5, .int .u8 t16), (6, .pointer (some ⟨b17, 0, none⟩)), (15, .slice pA0 p0.length pc0), (16, .int .i64 t15), (17, .int .u8 t29), (18, .bool (t29 == 253)), (19, .bool (t29 == 253))] (by kernel_rfl) ?_
      refine RegI.only [0, 2, 4, 5, 6, 19] [(0, .slice pA0 p0.length pc0), (2, .pointer (some ⟨b14, 0, none⟩)), (4, .int .i64 t15), (5, .int .u8 t16), (6, .pointer (some ⟨b17, 0, none⟩)), (19, .bool (t29 == 253))] (by kernel_rfl) (by kernel_rfl) ?_
      exact hj35 (t29 == 253) w25 h (h27.pick [0, 1, 2] (by decide))
def charabancref08_Next_16.f (K : Nat) (p0 : List Int) : Option (Int × Int × Int × Int × Int × Int × Bool) := (charabancref08_Next_16.l0 K p0 K 0 0 0).bind (fun yx56 => (charabancref08_at_30.f K p0 yx56.1).bind fun t67 => (charabancref08_plane_31.f K yx56.2.1 t67).bind fun t72 => Let (fun (t77 : Bool) => Let (fun (t87 : Int) => Let (fun (t94 : Bool) => Let (fun (yj160 : Int × Int × Int) => (charabancref08_Size_12.f K t72 yj160.2.1).bind fun t167 => Let (fun (t177 : Int) => Let (fun (t201 : Int) => cond (decide ((IntKind.wrap .i64 (yj160.1 + t167)) > (p0.length : Int))) (some (0, 0, 0, 0, 0, 0, false)) (some (t72, yj160.2.1, yj160.2.2, t201, (IntKind.wrap .i64 (yj160.1 + t167)), t87, true))) (fun j204 => cond (decide (t167 > 1)) ((charabancref08_at_30.f K p0 (IntKind.wrap .i64 (yj160.1 + 1))).bind fun t189 => j204 (IntKind.wrap .u16 (t177 + (IntKind.wrap .u16 (256 * (IntKind.wrap .u16 t189)))))) (j204 t177))) (fun j180 => cond (decide (t167 > 0)) ((charabancref08_at_30.f K p0 yj160.1).bind fun t173 => j180 (IntKind.wrap .u16 t173)) (j180 0))) (fun j160 => cond t94 ((charabancref08_at_30.f K p0 (IntKind.wrap .i64 (yx56.1 + 1))).bind fun t105 => (charabancref08_at_30.f K p0 (IntKind.wrap .i64 (yx56.1 + 2))).bind fun t113 => j160 ((IntKind.wrap .i64 (yx56.1 + 3)), t113, t105)) (Let (fun (t118 : Bool) => cond t118 ((charabancref08_at_30.f K p0 (IntKind.wrap .i64 (yx56.1 + 1))).bind fun t129 => j160 ((IntKind.wrap .i64 (yx56.1 + 2)), t129, 0)) ((charabancref08_at_30.f K p0 yx56.1).bind fun t137 => (charabancref08_Near_14.f K t72 t137).bind fun t145 => cond t145 ((charabancref08_at_30.f K p0 (IntKind.wrap .i64 (yx56.1 + 1))).bind fun t151 => j160 ((IntKind.wrap .i64 ((IntKind.wrap .i64 (yx56.1 + 1)) + 1)), t137, t151)) (j160 ((IntKind.wrap .i64 (yx56.1 + 1)), t137, 0)))) (fun j121 => cond (t72 == 1) (j121 true) (j121 (t72 == 2)))))) (fun j97 => cond (t72 == 5) (j97 true) (j97 (t72 == 6)))) (fun j90 => cond t77 (j90 (IntKind.wrap .i64 (yx56.2.2 + 1))) (j90 yx56.2.2))) (fun j80 => cond (t72 == 2) (j80 (decide (yx56.1 > 0))) (j80 false)))
set_option maxRecDepth 100000 in
theorem charabancref08_Next_16_ok (K : Nat) (M0 : Nat → Prop) (w0 : World) (pA0 : Option Addr) (pc0 : Nat) (p0 : List Int) (ho : ∀ b, M0 b → b < w0.heap.size) (hs0 : Sl (Rp.int .u8) w0 M0 (.slice pA0 p0.length pc0) p0) {r : Int × Int × Int × Int × Int × Int × Bool} (h : charabancref08_Next_16.f K p0 = some r) :
    Calls Try.prog 16 #[.slice pA0 p0.length pc0] w0 (charabancref08_Next_16.post M0 w0 r) := by
  unfold charabancref08_Next_16.f at h
  have h0 : Holds M0 w0 w0 [] := Holds.start ho
  have h00 := h0.addSl (Rp.int .u8) (.slice pA0 p0.length pc0) p0 (hs0.mono (fun _ _ hm => hm.elim id (fun hm => absurd hm (by simp [mines, sl]))))
  have h0 : Holds M0 w0 w0 [sl (Rp.int .u8) (.slice pA0 p0.length pc0) p0] := h00
  refine calls_of F16 rfl [.slice pA0 p0.length pc0] (by kernel_rfl) ?_
  refine RunsI.go 1 [.c 1, .c 2] (by kernel_rfl) ?_
  refine RunsI.region (by kernel_rfl) ?_
  refine RegI.op (by kernel_rfl) (OpE.box 2 30 [.int .i64 0, .int .u8 0, .int .u8 0, .int .u16 0, .int .i64 0, .int .i64 0] h0 (by kernel_rfl) (by kernel_rfl) ?_)
  intro w1 b2 h3 hb4 hn5
  refine RegI.pure 1 [0, 2] [(0, .slice pA0 p0.length pc0), (2, .pointer (some ⟨b2, 0, none⟩))] (by kernel_rfl) ?_
  refine RegI.done (by kernel_rfl) ?_
  refine RunsI.go 1 [.c 3, .c 4] (by kernel_rfl) ?_
  refine RunsI.region (by kernel_rfl) ?_
  refine RegI.pure 1 [0, 2, 4] [(0, .slice pA0 p0.length pc0), (2, .pointer (some ⟨b2, 0, none⟩)), (4, .int .i64 0)] (by kernel_rfl) ?_
  refine RegI.done (by kernel_rfl) ?_
  refine RunsI.go 1 [.c 5, .c 6] (by kernel_rfl) ?_
  refine RunsI.region (by kernel_rfl) ?_
  refine RegI.pure 1 [0, 2, 4, 5] [(0, .slice pA0 p0.length pc0), (2, .pointer (some ⟨b2, 0, none⟩)), (4, .int .i64 0), (5, .int .u8 0)] (by kernel_rfl) ?_
  refine RegI.done (by kernel_rfl) ?_
  refine RunsI.go 1 [.c 7, .c 8] (by kernel_rfl) ?_
  refine RunsI.region (by kernel_rfl) ?_
  refine RegI.pure 1 [0, 2, 4, 5, 9] [(0, .slice pA0 p0.length pc0), (2, .pointer (some ⟨b2, 0, none⟩)), (4, .int .i64 0), (5, .int .u8 0), (9, .agg #[.int .i64 0, .int .u8 0, .int .u8 0, .int .u16 0, .int .i64 0, .int .i64 0])] (by kernel_rfl) ?_
  refine RegI.op (by kernel_rfl) (OpE.box 6 30 [.int .i64 0, .int .u8 0, .int .u8 0, .int .u16 0, .int .i64 0, .int .i64 0] h3 (by kernel_rfl) (by kernel_rfl) ?_)
  intro w6 b7 h8 hb9 hn10
  refine RegI.op (by kernel_rfl) (OpE.storeBox 2 30 b7 0 (.agg #[.int .i64 0, .int .u8 0, .int .u8 0, .int .u16 0, .int .i64 0, .int .i64 0]) [.int .i64 0, .int .u8 0, .int .u8 0, .int .u16 0, .int .i64 0, .int .i64 0] h8 (by kernel_rfl) (by kernel_rfl) rfl (by kernel_rfl) (by kernel_rfl) (by kernel_rfl) ?_)
  intro w11 h12 hk13
  refine RegI.done (by kernel_rfl) ?_
  refine RunsI.go 3 [.c 11, .lp 11, .blk 0, .c 27] (by kernel_rfl) ?_
  obtain ⟨x56, hx57, h⟩ := of_bind h
  refine RunsI.only [0, 2, 4, 5, 6] [(0, .slice pA0 p0.length pc0), (2, .pointer (some ⟨b2, 0, none⟩)), (4, .int .i64 0), (5, .int .u8 0), (6, .pointer (some ⟨b7, 0, none⟩))] (by kernel_rfl) (by kernel_rfl) ?_
  refine charabancref08_Next_16.l0_ok K M0 w0 pA0 pc0 p0 b2 b7 _ x56 ?_ K 0 0 0 w11 hx57 (h12.pick [0, 1, 2] (by decide))
  · intro t58 t59 t60 w62 hq217 h61
    (try rw [hq217] at h)
    dsimp only at h
    refine RunsI.go 1 [.c 28, .c 29] (by kernel_rfl) ?_
    refine RunsI.region (by kernel_rfl) ?_
    refine RegI.pure 3 [0, 2, 4, 6, 32, 33, 34] [(0, .slice pA0 p0.length pc0), (2, .pointer (some ⟨b2, 0, none⟩)), (4, .int .i64 t58), (6, .pointer (some ⟨b7, 0, none⟩)), (32, .int .u8 t59), (33, .slice pA0 p0.length pc0), (34, .int .i64 t58)] (by kernel_rfl) ?_
    obtain ⟨t67, hg66, h⟩ := of_bind h
    refine RegI.op (by kernel_rfl) (OpE.call 35 (by kernel_rfl) 30 #[.slice pA0 p0.length pc0, .int .i64 t58] (by kernel_rfl) ((charabancref08_at_30_ok K _ w62  pA0 pc0 p0 t58 h61.old' (h61.get 0 rfl) hg66).mono ?_))
    rintro _ w63 ⟨rfl, hb64⟩
    refine ⟨_, rfl, ?_⟩
    have h65 := h61.call hb64
    obtain ⟨t72, hg71, h⟩ := of_bind h
    refine RegI.op (by kernel_rfl) (OpE.call 36 (by kernel_rfl) 31 #[.int .u8 t59, .int .u8 t67] (by kernel_rfl) ((charabancref08_plane_31_ok K _ w63  t59 t67 h65.old' hg71).mono ?_))
    rintro _ w68 ⟨rfl, hb69⟩
    refine ⟨_, rfl, ?_⟩
    have h70 := h65.call hb69
    refine RegI.pure 1 [0, 2, 4, 6, 36, 37] [(0, .slice pA0 p0.length pc0), (2, .pointer (some ⟨b2, 0, none⟩)), (4, .int .i64 t58), (6, .pointer (some ⟨b7, 0, none⟩)), (36, .int .i64 t72), (37, .pointer (some ⟨b7, 0, none⟩))] (by kernel_rfl) ?_
    refine RegI.op (by kernel_rfl) (OpE.storeBox 2 3 b7 0 (.int .i64 t72) [.int .i64 t72, .int .u8 0, .int .u8 0, .int .u16 0, .int .i64 0, .int .i64 t60] h70 (by kernel_rfl) (by kernel_rfl) rfl (by kernel_rfl) (by kernel_rfl) (by kernel_rfl) ?_)
    intro w73 h74 hk75
    refine RegI.done (by kernel_rfl) ?_
    refine RunsI.go 2 [.c 31, .c 32, .c 35] (by kernel_rfl) ?_
    refine RunsI.region (by kernel_rfl) ?_
    refine RegI.pure 1 [0, 2, 4, 6, 38] [(0, .slice pA0 p0.length pc0), (2, .pointer (some ⟨b2, 0, none⟩)), (4, .int .i64 t58), (6, .pointer (some ⟨b7, 0, none⟩)), (38, .pointer (some ⟨b7, 0, none⟩))] (by kernel_rfl) ?_
    refine RegI.op (by kernel_rfl) (OpE.loadBox 39 2 3 b7 0 (.int .i64 t72) h74 (by kernel_rfl) (by kernel_rfl) rfl (by kernel_rfl) ?_)
    refine RegI.pure 2 [0, 2, 4, 6, 41] [(0, .slice pA0 p0.length pc0), (2, .pointer (some ⟨b2, 0, none⟩)), (4, .int .i64 t58), (6, .pointer (some ⟨b7, 0, none⟩)), (41, .bool (t72 == 2))] (by kernel_rfl) ?_
    obtain ⟨j80, hJ81, h⟩ := of_let h
    have hj82 : ∀ (t77 : Bool) (w79 : World), j80 t77 = some r → Holds M0 w0 w79 [sl (Rp.int .u8) (.slice pA0 p0.length pc0) p0, box b2 30 [.int .i64 0, .int .u8 0, .int .u8 0, .int .u16 0, .int .i64 0, .int .i64 0], box b7 30 [.int .i64 t72, .int .u8 0, .int .u8 0, .int .u16 0, .int .i64 0, .int .i64 t60]] → RegI F16 31 [.c 32, .c 35] 7 [(0, .slice pA0 p0.length pc0), (2, .pointer (some ⟨b2, 0, none⟩)), (4, .int .i64 t58), (6, .pointer (some ⟨b7, 0, none⟩)), (44, .bool t77)] w79 (charabancref08_Next_16.post M0 w0 r) := by
      intro t77 w79 h h78
      rw [hJ81] at h
      clear hJ81
      dsimp only at h
      refine RegI.done (by kernel_rfl) ?_
      obtain ⟨j90, hJ91, h⟩ := of_let h
      have hj92 : ∀ (t87 : Int) (w89 : World), j90 t87 = some r → Holds M0 w0 w89 [sl (Rp.int .u8) (.slice pA0 p0.length pc0) p0, box b2 30 [.int .i64 0, .int .u8 0, .int .u8 0, .int .u16 0, .int .i64 0, .int .i64 0], box b7 30 [.int .i64 t72, .int .u8 0, .int .u8 0, .int .u16 0, .int .i64 0, .int .i64 t87]] → RunsI F16 [.c 35] [(0, .slice pA0 p0.length pc0), (2, .pointer (some ⟨b2, 0, none⟩)), (4, .int .i64 t58), (6, .pointer (some ⟨b7, 0, none⟩))] w89 (charabancref08_Next_16.post M0 w0 r) := by
        intro t87 w89 h h88
        rw [hJ91] at h
        clear hJ91
        dsimp only at h
        refine RunsI.go 2 [.c 37, .c 38, .c 74] (by kernel_rfl) ?_
        refine RunsI.region (by kernel_rfl) ?_
        refine RegI.pure 1 [0, 2, 4, 6, 49] [(0, .slice pA0 p0.length pc0), (2, .pointer (some ⟨b2, 0, none⟩)), (4, .int .i64 t58), (6, .pointer (some ⟨b7, 0, none⟩)), (49, .pointer (some ⟨b7, 0, none⟩))] (by kernel_rfl) ?_
        refine RegI.op (by kernel_rfl) (OpE.loadBox 50 2 3 b7 0 (.int .i64 t72) h88 (by kernel_rfl) (by kernel_rfl) rfl (by kernel_rfl) ?_)
        refine RegI.done (by kernel_rfl) ?_
        refine RunsI.go 3 [.c 41, .c 42, .c 45, .blk 2, .c 74] (by kernel_rfl) ?_
        refine RunsI.region (by kernel_rfl) ?_
        refine RegI.pure 2 [0, 2, 4, 6, 50, 69] [(0, .slice pA0 p0.length pc0), (2, .pointer (some ⟨b2, 0, none⟩)), (4, .int .i64 t58), (6, .pointer (some ⟨b7, 0, none⟩)), (50, .int .i64 t72), (69, .bool (t72 == 5))] (by kernel_rfl) ?_
        refine RegI.done (by kernel_rfl) ?_
        obtain ⟨j97, hJ98, h⟩ := of_let h
        have hj99 : ∀ (t94 : Bool) (w96 : World), j97 t94 = some r → Holds M0 w0 w96 [sl (Rp.int .u8) (.slice pA0 p0.length pc0) p0, box b2 30 [.int .i64 0, .int .u8 0, .int .u8 0, .int .u16 0, .int .i64 0, .int .i64 0], box b7 30 [.int .i64 t72, .int .u8 0, .int .u8 0, .int .u16 0, .int .i64 0, .int .i64 t87]] → RunsI F16 [.c 45, .blk 2, .c 74] [(0, .slice pA0 p0.length pc0), (2, .pointer (some ⟨b2, 0, none⟩)), (4, .int .i64 t58), (6, .pointer (some ⟨b7, 0, none⟩)), (50, .int .i64 t72), (69, .bool t94)] w96 (charabancref08_Next_16.post M0 w0 r) := by
          intro t94 w96 h h95
          rw [hJ98] at h
          clear hJ98
          dsimp only at h
          obtain ⟨j160, hJ161, h⟩ := of_let h
          have hj162 : ∀ (t155 : Int) (t156 : Int) (t157 : Int) (w159 : World), j160 (t155, t156, t157) = some r → Holds M0 w0 w159 [sl (Rp.int .u8) (.slice pA0 p0.length pc0) p0, box b2 30 [.int .i64 0, .int .u8 0, .int .u8 0, .int .u16 0, .int .i64 0, .int .i64 0], box b7 30 [.int .i64 t72, .int .u8 t156, .int .u8 t157, .int .u16 0, .int .i64 0, .int .i64 t87]] → RunsI F16 [.blk 2, .c 74] [(0, .slice pA0 p0.length pc0), (2, .pointer (some ⟨b2, 0, none⟩)), (4, .int .i64 t155), (6, .pointer (some ⟨b7, 0, none⟩))] w159 (charabancref08_Next_16.post M0 w0 r) := by
            intro t155 t156 t157 w159 h h158
            rw [hJ161] at h
            clear hJ161
            dsimp only at h
            refine RunsI.go 2 [.c 75, .c 76] (by kernel_rfl) ?_
            refine RunsI.region (by kernel_rfl) ?_
            refine RegI.pure 1 [0, 2, 4, 6, 94] [(0, .slice pA0 p0.length pc0), (2, .pointer (some ⟨b2, 0, none⟩)), (4, .int .i64 t155), (6, .pointer (some ⟨b7, 0, none⟩)), (94, .pointer (some ⟨b7, 0, none⟩))] (by kernel_rfl) ?_
            refine RegI.op (by kernel_rfl) (OpE.loadBox 95 2 3 b7 0 (.int .i64 t72) h158 (by kernel_rfl) (by kernel_rfl) rfl (by kernel_rfl) ?_)
            refine RegI.pure 1 [0, 2, 4, 6, 95, 96] [(0, .slice pA0 p0.length pc0), (2, .pointer (some ⟨b2, 0, none⟩)), (4, .int .i64 t155), (6, .pointer (some ⟨b7, 0, none⟩)), (95, .int .i64 t72), (96, .pointer (some ⟨b7, 1, none⟩))] (by kernel_rfl) ?_
            refine RegI.op (by kernel_rfl) (OpE.loadBox 97 2 5 b7 1 (.int .u8 t156) h158 (by kernel_rfl) (by kernel_rfl) rfl (by kernel_rfl) ?_)
            obtain ⟨t167, hg166, h⟩ := of_bind h
            refine RegI.op (by kernel_rfl) (OpE.call 98 (by kernel_rfl) 12 #[.int .i64 t72, .int .u8 t156] (by kernel_rfl) ((charabancref08_Size_12_ok K _ w159  t72 t156 h158.old' hg166).mono ?_))
            rintro _ w163 ⟨rfl, hb164⟩
            refine ⟨_, rfl, ?_⟩
            have h165 := h158.call hb164
            refine RegI.pure 1 [0, 2, 4, 6, 8] [(0, .slice pA0 p0.length pc0), (2, .pointer (some ⟨b2, 0, none⟩)), (4, .int .i64 t155), (6, .pointer (some ⟨b7, 0, none⟩)), (8, .int .i64 t167)] (by kernel_rfl) ?_
            refine RegI.done (by kernel_rfl) ?_
            refine RunsI.go 2 [.c 78, .c 79, .c 82] (by kernel_rfl) ?_
            refine RunsI.region (by kernel_rfl) ?_
            refine RegI.pure 2 [0, 2, 4, 6, 8, 100] [(0, .slice pA0 p0.length pc0), (2, .pointer (some ⟨b2, 0, none⟩)), (4, .int .i64 t155), (6, .pointer (some ⟨b7, 0, none⟩)), (8, .int .i64 t167), (100, .bool (decide (t167 > 0)))] (by kernel_rfl) ?_
            refine RegI.done (by kernel_rfl) ?_
            obtain ⟨j180, hJ181, h⟩ := of_let h
            have hj182 : ∀ (t177 : Int) (w179 : World), j180 t177 = some r → Holds M0 w0 w179 [sl (Rp.int .u8) (.slice pA0 p0.length pc0) p0, box b2 30 [.int .i64 0, .int .u8 0, .int .u8 0, .int .u16 0, .int .i64 0, .int .i64 0], box b7 30 [.int .i64 t72, .int .u8 t156, .int .u8 t157, .int .u16 t177, .int .i64 0, .int .i64 t87]] → RunsI F16 [.c 82] [(0, .slice pA0 p0.length pc0), (2, .pointer (some ⟨b2, 0, none⟩)), (4, .int .i64 t155), (6, .pointer (some ⟨b7, 0, none⟩)), (8, .int .i64 t167)] w179 (charabancref08_Next_16.post M0 w0 r) := by
              intro t177 w179 h h178
              rw [hJ181] at h
              clear hJ181
              dsimp only at h
              refine RunsI.go 2 [.c 84, .c 85, .c 88] (by kernel_rfl) ?_
              refine RunsI.region (by kernel_rfl) ?_
              refine RegI.pure 2 [0, 2, 4, 6, 8, 107] [(0, .slice pA0 p0.length pc0), (2, .pointer (some ⟨b2, 0, none⟩)), (4, .int .i64 t155), (6, .pointer (some ⟨b7, 0, none⟩)), (8, .int .i64 t167), (107, .bool (decide (t167 > 1)))] (by kernel_rfl) ?_
              refine RegI.done (by kernel_rfl) ?_
              obtain ⟨j204, hJ205, h⟩ := of_let h
              have hj206 : ∀ (t201 : Int) (w203 : World), j204 t201 = some r → Holds M0 w0 w203 [sl (Rp.int .u8) (.slice pA0 p0.length pc0) p0, box b2 30 [.int .i64 0, .int .u8 0, .int .u8 0, .int .u16 0, .int .i64 0, .int .i64 0], box b7 30 [.int .i64 t72, .int .u8 t156, .int .u8 t157, .int .u16 t201, .int .i64 0, .int .i64 t87]] → RunsI F16 [.c 88] [(0, .slice pA0 p0.length pc0), (2, .pointer (some ⟨b2, 0, none⟩)), (4, .int .i64 t155), (6, .pointer (some ⟨b7, 0, none⟩)), (8, .int .i64 t167)] w203 (charabancref08_Next_16.post M0 w0 r) := by
                intro t201 w203 h h202
                rw [hJ205] at h
                clear hJ205
                dsimp only at h
                refine RunsI.go 1 [.c 89, .c 90] (by kernel_rfl) ?_
                refine RunsI.region (by kernel_rfl) ?_
                refine RegI.pure 4 [0, 2, 6, 120, 121] [(0, .slice pA0 p0.length pc0), (2, .pointer (some ⟨b2, 0, none⟩)), (6, .pointer (some ⟨b7, 0, none⟩)), (120, .int .i64 (IntKind.wrap .i64 (t155 + t167))), (121, .pointer (some ⟨b7, 4, none⟩))] (by kernel_rfl) ?_
                refine RegI.op (by kernel_rfl) (OpE.storeBox 2 3 b7 4 (.int .i64 (IntKind.wrap .i64 (t155 + t167))) [.int .i64 t72, .int .u8 t156, .int .u8 t157, .int .u16 t201, .int .i64 (IntKind.wrap .i64 (t155 + t167)), .int .i64 t87] h202 (by kernel_rfl) (by kernel_rfl) rfl (by kernel_rfl) (by kernel_rfl) (by kernel_rfl) ?_)
                intro w207 h208 hk209
                refine RegI.done (by kernel_rfl) ?_
                refine RunsI.go 2 [.c 92, .c 93, .c 98] (by kernel_rfl) ?_
                refine RunsI.region (by kernel_rfl) ?_
                refine RegI.pure 1 [0, 2, 6, 122] [(0, .slice pA0 p0.length pc0), (2, .pointer (some ⟨b2, 0, none⟩)), (6, .pointer (some ⟨b7, 0, none⟩)), (122, .pointer (some ⟨b7, 4, none⟩))] (by kernel_rfl) ?_
                refine RegI.op (by kernel_rfl) (OpE.loadBox 123 2 3 b7 4 (.int .i64 (IntKind.wrap .i64 (t155 + t167))) h208 (by kernel_rfl) (by kernel_rfl) rfl (by kernel_rfl) ?_)
                refine RegI.pure 3 [2, 6, 126] [(2, .pointer (some ⟨b2, 0, none⟩)), (6, .pointer (some ⟨b7, 0, none⟩)), (126, .bool (decide ((IntKind.wrap .i64 (t155 + t167)) > (p0.length : Int))))] (by kernel_rfl) ?_
                refine RegI.done (by kernel_rfl) ?_
                rcases of_cond h with ⟨hc210, h⟩ | ⟨hc210, h⟩
                · skip
                  refine RunsI.fix 126 true hc210 (by kernel_rfl) (by kernel_rfl) ?_
                  refine RunsI.cond true 94 (by kernel_rfl) ?_
                  refine RunsI.go 1 [.c 95, .c 96, .c 98] (by kernel_rfl) ?_
                  refine RunsI.region (by kernel_rfl) ?_
                  refine RegI.pure 1 [2, 127] [(2, .pointer (some ⟨b2, 0, none⟩)), (127, .agg #[.int .i64 0, .int .u8 0, .int .u8 0, .int .u16 0, .int .i64 0, .int .i64 0])] (by kernel_rfl) ?_
                  refine RegI.op (by kernel_rfl) (OpE.storeBox 1 30 b2 0 (.agg #[.int .i64 0, .int .u8 0, .int .u8 0, .int .u16 0, .int .i64 0, .int .i64 0]) [.int .i64 0, .int .u8 0, .int .u8 0, .int .u16 0, .int .i64 0, .int .i64 0] h208 (by kernel_rfl) (by kernel_rfl) rfl (by kernel_rfl) (by kernel_rfl) (by kernel_rfl) ?_)
                  intro w211 h212 hk213
                  refine RegI.pure 1 [2, 3] [(2, .pointer (some ⟨b2, 0, none⟩)), (3, .bool false)] (by kernel_rfl) ?_
                  refine RegI.done (by kernel_rfl) ?_
                  refine RunsI.toRet (by kernel_rfl) ?_
                  refine RetI.valW [.cell 2 30, .tmp 3] [.agg #[.int .i64 0, .int .u8 0, .int .u8 0, .int .u16 0, .int .i64 0, .int .i64 0], .bool false] (.tuple #[.agg #[.int .i64 0, .int .u8 0, .int .u8 0, .int .u16 0, .int .i64 0, .int .i64 0], .bool false]) (by kernel_rfl) (ResAt.box 1 30 b2 0 h212 (by kernel_rfl) (by kernel_rfl) rfl (by kernel_rfl) (ResAt.tmp (by kernel_rfl) (by kernel_rfl) rfl)) (by kernel_rfl) ?_
                  obtain rfl := Option.some.inj h
                  exact ⟨rfl, h212.below⟩
                · skip
                  refine RunsI.fix 126 false hc210 (by kernel_rfl) (by kernel_rfl) ?_
                  refine RunsI.cond false 97 (by kernel_rfl) ?_
                  refine RunsI.go 1 [.c 98] (by kernel_rfl) ?_
                  refine RunsI.go 1 [.c 99, .c 100] (by kernel_rfl) ?_
                  refine RunsI.region (by kernel_rfl) ?_
                  refine RegI.op (by kernel_rfl) (OpE.loadBox 128 2 30 b7 0 (.agg #[.int .i64 t72, .int .u8 t156, .int .u8 t157, .int .u16 t201, .int .i64 (IntKind.wrap .i64 (t155 + t167)), .int .i64 t87]) h208 (by kernel_rfl) (by kernel_rfl) rfl (by kernel_rfl) ?_)
                  refine RegI.op (by kernel_rfl) (OpE.storeBox 1 30 b2 0 (.agg #[.int .i64 t72, .int .u8 t156, .int .u8 t157, .int .u16 t201, .int .i64 (IntKind.wrap .i64 (t155 + t167)), .int .i64 t87]) [.int .i64 t72, .int .u8 t156, .int .u8 t157, .int .u16 t201, .int .i64 (IntKind.wrap .i64 (t155 + t167)), .int .i64 t87] h208 (by kernel_rfl) (by kernel_rfl) rfl (by kernel_rfl) (by kernel_rfl) (by kernel_rfl) ?_)
                  intro w214 h215 hk216
                  refine RegI.pure 1 [2, 3] [(2, .pointer (some ⟨b2, 0, none⟩)), (3, .bool true)] (by kernel_rfl) ?_
                  refine RegI.done (by kernel_rfl) ?_
                  refine RunsI.toRet (by kernel_rfl) ?_
                  refine RetI.valW [.cell 2 30, .tmp 3] [.agg #[.int .i64 t72, .int .u8 t156, .int .u8 t157, .int .u16 t201, .int .i64 (IntKind.wrap .i64 (t155 + t167)), .int .i64 t87], .bool true] (.tuple #[.agg #[.int .i64 t72, .int .u8 t156, .int .u8 t157, .int .u16 t201, .int .i64 (IntKind.wrap .i64 (t155 + t167)), .int .i64 t87], .bool true]) (by kernel_rfl) (ResAt.box 1 30 b2 0 h215 (by kernel_rfl) (by kernel_rfl) rfl (by kernel_rfl) (ResAt.tmp (by kernel_rfl) (by kernel_rfl) rfl)) (by kernel_rfl) ?_
                  obtain rfl := Option.some.inj h
                  exact ⟨rfl, h215.below⟩
              clear hJ205
              rcases of_cond h with ⟨hc183, h⟩ | ⟨hc183, h⟩
              · skip
                refine RunsI.fix 107 true hc183 (by kernel_rfl) (by kernel_rfl) ?_
                refine RunsI.cond true 86 (by kernel_rfl) ?_
                refine RunsI.any 11 (by kernel_rfl) (by kernel_rfl) (by kernel_rfl) (Kp ([] : List Nat) (World.drew w179)) ?_
                have h185 := h178.drew
                generalize World.drew w179 = w184 at h185 ⊢
                have hS186 := Kp.refl ([] : List Nat) w184
                refine AnyE.pure 0 108 (.pointer (some ⟨b7, 3, none⟩)) (by kernel_rfl) hS186 (fun _ => by kernel_rfl) ?_
                refine AnyE.loadBox 1 109 2 28 b7 3 (.int .u16 t177) [] h185 rfl (by kernel_rfl) hS186 rfl rfl (by kernel_rfl) (by kernel_rfl) ?_
                refine AnyE.pure 2 110 (.slice pA0 p0.length pc0) (by kernel_rfl) hS186 (fun _ => by kernel_rfl) ?_
                refine AnyE.pure 3 111 (.int .i64 t155) (by kernel_rfl) hS186 (fun _ => by kernel_rfl) ?_
                refine AnyE.pure 4 112 (.int .i64 (IntKind.wrap .i64 (t155 + 1))) (by kernel_rfl) hS186 (fun _ => by kernel_rfl) ?_
                obtain ⟨t189, hg188, h⟩ := of_bind h
                refine AnyE.call 5 113 (.int .u8 t189) 30 #[.slice pA0 p0.length pc0, .int .i64 (IntKind.wrap .i64 (t155 + 1))] (by kernel_rfl) hS186 (fun _ => by kernel_rfl) (fun w hk => charabancref08_at_30_ok K (fun _ => False) w pA0 pc0 p0 (IntKind.wrap .i64 (t155 + 1)) (fun _ hf => hf.elim) (Sl.mono (h185.atI [] rfl hk 0 rfl rfl) (fun _ _ hf => hf.elim)) hg188) ?_
                refine AnyE.pure 6 114 (.int .u16 (IntKind.wrap .u16 t189)) (by kernel_rfl) hS186 (fun _ => by kernel_rfl) ?_
                refine AnyE.pure 7 115 (.int .u16 (IntKind.wrap .u16 (256 * (IntKind.wrap .u16 t189)))) (by kernel_rfl) hS186 (fun _ => by kernel_rfl) ?_
                refine AnyE.pure 8 116 (.int .u16 (IntKind.wrap .u16 (t177 + (IntKind.wrap .u16 (256 * (IntKind.wrap .u16 t189)))))) (by kernel_rfl) hS186 (fun _ => by kernel_rfl) ?_
                refine AnyE.pure 9 117 (.pointer (some ⟨b7, 3, none⟩)) (by kernel_rfl) hS186 (fun _ => by kernel_rfl) ?_
                refine AnyE.last 10 (by kernel_rfl) (by kernel_rfl) (fun w190 hu191 => ?_)
                have h192 := h185.call hu191
                have hS193 := hS186.up hu191
                refine OpE.storeBox 2 28 b7 3 (.int .u16 (IntKind.wrap .u16 (t177 + (IntKind.wrap .u16 (256 * (IntKind.wrap .u16 t189)))))) [.int .i64 t72, .int .u8 t156, .int .u8 t157, .int .u16 (IntKind.wrap .u16 (t177 + (IntKind.wrap .u16 (256 * (IntKind.wrap .u16 t189))))), .int .i64 0, .int .i64 t87] h192 (by kernel_rfl) (by kernel_rfl) rfl (by kernel_rfl) (by kernel_rfl) (by kernel_rfl) ?_
                intro w194 h195 hk196
                refine AnyE.done (by kernel_rfl) (fun w198 hu199 => ?_)
                have h200 := h195.call hu199
                refine RunsI.only [0, 2, 4, 6, 8] [(0, .slice pA0 p0.length pc0), (2, .pointer (some ⟨b2, 0, none⟩)), (4, .int .i64 t155), (6, .pointer (some ⟨b7, 0, none⟩)), (8, .int .i64 t167)] (by kernel_rfl) (by kernel_rfl) ?_
                refine RunsI.only [0, 2, 4, 6, 8] [(0, .slice pA0 p0.length pc0), (2, .pointer (some ⟨b2, 0, none⟩)), (4, .int .i64 t155), (6, .pointer (some ⟨b7, 0, none⟩)), (8, .int .i64 t167)] (by kernel_rfl) (by kernel_rfl) ?_
                exact hj206 (IntKind.wrap .u16 (t177 + (IntKind.wrap .u16 (256 * (IntKind.wrap .u16 t189))))) w198 h (h200.pick [0, 1, 2] (by decide))
              · skip
                refine RunsI.fix 107 false hc183 (by kernel_rfl) (by kernel_rfl) ?_
                refine RunsI.cond false 87 (by kernel_rfl) ?_
                refine RunsI.go 1 [.c 88] (by kernel_rfl) ?_
                refine RunsI.only [0, 2, 4, 6, 8] [(0, .slice pA0 p0.length pc0), (2, .pointer (some ⟨b2, 0, none⟩)), (4, .int .i64 t155), (6, .pointer (some ⟨b7, 0, none⟩)), (8, .int .i64 t167)] (by kernel_rfl) (by kernel_rfl) ?_
                exact hj206 t177 w179 h (h178.pick [0, 1, 2] (by decide))
            clear hJ181
            rcases of_cond h with ⟨hc168, h⟩ | ⟨hc168, h⟩
            · skip
              refine RunsI.fix 100 true hc168 (by kernel_rfl) (by kernel_rfl) ?_
              refine RunsI.cond true 80 (by kernel_rfl) ?_
              refine RunsI.region (by kernel_rfl) ?_
              refine RegI.pure 2 [0, 2, 4, 6, 8, 101, 102] [(0, .slice pA0 p0.length pc0), (2, .pointer (some ⟨b2, 0, none⟩)), (4, .int .i64 t155), (6, .pointer (some ⟨b7, 0, none⟩)), (8, .int .i64 t167), (101, .slice pA0 p0.length pc0), (102, .int .i64 t155)] (by kernel_rfl) ?_
              obtain ⟨t173, hg172, h⟩ := of_bind h
              refine RegI.op (by kernel_rfl) (OpE.call 103 (by kernel_rfl) 30 #[.slice pA0 p0.length pc0, .int .i64 t155] (by kernel_rfl) ((charabancref08_at_30_ok K _ w163  pA0 pc0 p0 t155 h165.old' (h165.get 0 rfl) hg172).mono ?_))
              rintro _ w169 ⟨rfl, hb170⟩
              refine ⟨_, rfl, ?_⟩
              have h171 := h165.call hb170
              refine RegI.pure 2 [0, 2, 4, 6, 8, 104, 105] [(0, .slice pA0 p0.length pc0), (2, .pointer (some ⟨b2, 0, none⟩)), (4, .int .i64 t155), (6, .pointer (some ⟨b7, 0, none⟩)), (8, .int .i64 t167), (104, .int .u16 (IntKind.wrap .u16 t173)), (105, .pointer (some ⟨b7, 3, none⟩))] (by kernel_rfl) ?_
              refine RegI.op (by kernel_rfl) (OpE.storeBox 2 28 b7 3 (.int .u16 (IntKind.wrap .u16 t173)) [.int .i64 t72, .int .u8 t156, .int .u8 t157, .int .u16 (IntKind.wrap .u16 t173), .int .i64 0, .int .i64 t87] h171 (by kernel_rfl) (by kernel_rfl) rfl (by kernel_rfl) (by kernel_rfl) (by kernel_rfl) ?_)
              intro w174 h175 hk176
              refine RegI.done (by kernel_rfl) ?_
              refine RunsI.only [0, 2, 4, 6, 8] [(0, .slice pA0 p0.length pc0), (2, .pointer (some ⟨b2, 0, none⟩)), (4, .int .i64 t155), (6, .pointer (some ⟨b7, 0, none⟩)), (8, .int .i64 t167)] (by kernel_rfl) (by kernel_rfl) ?_
              exact hj182 (IntKind.wrap .u16 t173) w174 h (h175.pick [0, 1, 2] (by decide))
            · skip
              refine RunsI.fix 100 false hc168 (by kernel_rfl) (by kernel_rfl) ?_
              refine RunsI.cond false 81 (by kernel_rfl) ?_
              refine RunsI.go 1 [.c 82] (by kernel_rfl) ?_
              refine RunsI.only [0, 2, 4, 6, 8] [(0, .slice pA0 p0.length pc0), (2, .pointer (some ⟨b2, 0, none⟩)), (4, .int .i64 t155), (6, .pointer (some ⟨b7, 0, none⟩)), (8, .int .i64 t167)] (by kernel_rfl) (by kernel_rfl) ?_
              exact hj182 0 w163 h (h165.pick [0, 1, 2] (by decide))
          clear hJ161
          rcases of_cond h with ⟨hc100, h⟩ | ⟨hc100, h⟩
          · skip
            refine RunsI.fix 69 true hc100 (by kernel_rfl) (by kernel_rfl) ?_
            refine RunsI.cond true 46 (by kernel_rfl) ?_
            refine RunsI.go 1 [.c 47, .c 48, .blk 2, .c 74] (by kernel_rfl) ?_
            refine RunsI.region (by kernel_rfl) ?_
            refine RegI.pure 3 [0, 2, 4, 6, 72, 74] [(0, .slice pA0 p0.length pc0), (2, .pointer (some ⟨b2, 0, none⟩)), (4, .int .i64 t58), (6, .pointer (some ⟨b7, 0, none⟩)), (72, .slice pA0 p0.length pc0), (74, .int .i64 (IntKind.wrap .i64 (t58 + 1)))] (by kernel_rfl) ?_
            obtain ⟨t105, hg104, h⟩ := of_bind h
            refine RegI.op (by kernel_rfl) (OpE.call 75 (by kernel_rfl) 30 #[.slice pA0 p0.length pc0, .int .i64 (IntKind.wrap .i64 (t58 + 1))] (by kernel_rfl) ((charabancref08_at_30_ok K _ w96  pA0 pc0 p0 (IntKind.wrap .i64 (t58 + 1)) h95.old' (h95.get 0 rfl) hg104).mono ?_))
            rintro _ w101 ⟨rfl, hb102⟩
            refine ⟨_, rfl, ?_⟩
            have h103 := h95.call hb102
            refine RegI.pure 1 [0, 2, 4, 6, 75, 76] [(0, .slice pA0 p0.length pc0), (2, .pointer (some ⟨b2, 0, none⟩)), (4, .int .i64 t58), (6, .pointer (some ⟨b7, 0, none⟩)), (75, .int .u8 t105), (76, .pointer (some ⟨b7, 2, none⟩))] (by kernel_rfl) ?_
            refine RegI.op (by kernel_rfl) (OpE.storeBox 2 5 b7 2 (.int .u8 t105) [.int .i64 t72, .int .u8 0, .int .u8 t105, .int .u16 0, .int .i64 0, .int .i64 t87] h103 (by kernel_rfl) (by kernel_rfl) rfl (by kernel_rfl) (by kernel_rfl) (by kernel_rfl) ?_)
            intro w106 h107 hk108
            refine RegI.done (by kernel_rfl) ?_
            refine RunsI.go 1 [.c 49, .c 50, .blk 2, .c 74] (by kernel_rfl) ?_
            refine RunsI.region (by kernel_rfl) ?_
            refine RegI.pure 3 [0, 2, 4, 6, 77, 79] [(0, .slice pA0 p0.length pc0), (2, .pointer (some ⟨b2, 0, none⟩)), (4, .int .i64 t58), (6, .pointer (some ⟨b7, 0, none⟩)), (77, .slice pA0 p0.length pc0), (79, .int .i64 (IntKind.wrap .i64 (t58 + 2)))] (by kernel_rfl) ?_
            obtain ⟨t113, hg112, h⟩ := of_bind h
            refine RegI.op (by kernel_rfl) (OpE.call 80 (by kernel_rfl) 30 #[.slice pA0 p0.length pc0, .int .i64 (IntKind.wrap .i64 (t58 + 2))] (by kernel_rfl) ((charabancref08_at_30_ok K _ w106  pA0 pc0 p0 (IntKind.wrap .i64 (t58 + 2)) h107.old' (h107.get 0 rfl) hg112).mono ?_))
            rintro _ w109 ⟨rfl, hb110⟩
            refine ⟨_, rfl, ?_⟩
            have h111 := h107.call hb110
            refine RegI.pure 1 [0, 2, 4, 6, 80, 81] [(0, .slice pA0 p0.length pc0), (2, .pointer (some ⟨b2, 0, none⟩)), (4, .int .i64 t58), (6, .pointer (some ⟨b7, 0, none⟩)), (80, .int .u8 t113), (81, .pointer (some ⟨b7, 1, none⟩))] (by kernel_rfl) ?_
            refine RegI.op (by kernel_rfl) (OpE.storeBox 2 5 b7 1 (.int .u8 t113) [.int .i64 t72, .int .u8 t113, .int .u8 t105, .int .u16 0, .int .i64 0, .int .i64 t87] h111 (by kernel_rfl) (by kernel_rfl) rfl (by kernel_rfl) (by kernel_rfl) (by kernel_rfl) ?_)
            intro w114 h115 hk116
            refine RegI.done (by kernel_rfl) ?_
            refine RunsI.region (by kernel_rfl) ?_
            refine RegI.pure 3 [0, 2, 4, 6] [(0, .slice pA0 p0.length pc0), (2, .pointer (some ⟨b2, 0, none⟩)), (4, .int .i64 (IntKind.wrap .i64 (t58 + 3))), (6, .pointer (some ⟨b7, 0, none⟩))] (by kernel_rfl) ?_
            refine RegI.done (by kernel_rfl) ?_
            refine RunsI.only [0, 2, 4, 6] [(0, .slice pA0 p0.length pc0), (2, .pointer (some ⟨b2, 0, none⟩)), (4, .int .i64 (IntKind.wrap .i64 (t58 + 3))), (6, .pointer (some ⟨b7, 0, none⟩))] (by kernel_rfl) (by kernel_rfl) ?_
            exact hj162 (IntKind.wrap .i64 (t58 + 3)) t113 t105 w114 h (h115.pick [0, 1, 2] (by decide))
          · skip
            refine RunsI.fix 69 false hc100 (by kernel_rfl) (by kernel_rfl) ?_
            refine RunsI.cond false 51 (by kernel_rfl) ?_
            refine RunsI.go 2 [.c 53, .c 54, .c 57, .blk 2, .c 74] (by kernel_rfl) ?_
            refine RunsI.region (by kernel_rfl) ?_
            refine RegI.pure 2 [0, 2, 4, 6, 50, 84] [(0, .slice pA0 p0.length pc0), (2, .pointer (some ⟨b2, 0, none⟩)), (4, .int .i64 t58), (6, .pointer (some ⟨b7, 0, none⟩)), (50, .int .i64 t72), (84, .bool (t72 == 1))] (by kernel_rfl) ?_
            refine RegI.done (by kernel_rfl) ?_
            obtain ⟨j121, hJ122, h⟩ := of_let h
            have hj123 : ∀ (t118 : Bool) (w120 : World), j121 t118 = some r → Holds M0 w0 w120 [sl (Rp.int .u8) (.slice pA0 p0.length pc0) p0, box b2 30 [.int .i64 0, .int .u8 0, .int .u8 0, .int .u16 0, .int .i64 0, .int .i64 0], box b7 30 [.int .i64 t72, .int .u8 0, .int .u8 0, .int .u16 0, .int .i64 0, .int .i64 t87]] → RunsI F16 [.c 57, .blk 2, .c 74] [(0, .slice pA0 p0.length pc0), (2, .pointer (some ⟨b2, 0, none⟩)), (4, .int .i64 t58), (6, .pointer (some ⟨b7, 0, none⟩)), (84, .bool t118)] w120 (charabancref08_Next_16.post M0 w0 r) := by
              intro t118 w120 h h119
              rw [hJ122] at h
              clear hJ122
              dsimp only at h
              rcases of_cond h with ⟨hc124, h⟩ | ⟨hc124, h⟩
              · skip
                refine RunsI.fix 84 true hc124 (by kernel_rfl) (by kernel_rfl) ?_
                refine RunsI.cond true 58 (by kernel_rfl) ?_
                refine RunsI.go 1 [.c 59, .c 60, .blk 2, .c 74] (by kernel_rfl) ?_
                refine RunsI.region (by kernel_rfl) ?_
                refine RegI.pure 3 [0, 2, 4, 6, 87, 89] [(0, .slice pA0 p0.length pc0), (2, .pointer (some ⟨b2, 0, none⟩)), (4, .int .i64 t58), (6, .pointer (some ⟨b7, 0, none⟩)), (87, .slice pA0 p0.length pc0), (89, .int .i64 (IntKind.wrap .i64 (t58 + 1)))] (by kernel_rfl) ?_
                obtain ⟨t129, hg128, h⟩ := of_bind h
                refine RegI.op (by kernel_rfl) (OpE.call 90 (by kernel_rfl) 30 #[.slice pA0 p0.length pc0, .int .i64 (IntKind.wrap .i64 (t58 + 1))] (by kernel_rfl) ((charabancref08_at_30_ok K _ w120  pA0 pc0 p0 (IntKind.wrap .i64 (t58 + 1)) h119.old' (h119.get 0 rfl) hg128).mono ?_))
                rintro _ w125 ⟨rfl, hb126⟩
                refine ⟨_, rfl, ?_⟩
                have h127 := h119.call hb126
                refine RegI.pure 1 [0, 2, 4, 6, 90, 91] [(0, .slice pA0 p0.length pc0), (2, .pointer (some ⟨b2, 0, none⟩)), (4, .int .i64 t58), (6, .pointer (some ⟨b7, 0, none⟩)), (90, .int .u8 t129), (91, .pointer (some ⟨b7, 1, none⟩))] (by kernel_rfl) ?_
                refine RegI.op (by kernel_rfl) (OpE.storeBox 2 5 b7 1 (.int .u8 t129) [.int .i64 t72, .int .u8 t129, .int .u8 0, .int .u16 0, .int .i64 0, .int .i64 t87] h127 (by kernel_rfl) (by kernel_rfl) rfl (by kernel_rfl) (by kernel_rfl) (by kernel_rfl) ?_)
                intro w130 h131 hk132
                refine RegI.done (by kernel_rfl) ?_
                refine RunsI.region (by kernel_rfl) ?_
                refine RegI.pure 3 [0, 2, 4, 6] [(0, .slice pA0 p0.length pc0), (2, .pointer (some ⟨b2, 0, none⟩)), (4, .int .i64 (IntKind.wrap .i64 (t58 + 2))), (6, .pointer (some ⟨b7, 0, none⟩))] (by kernel_rfl) ?_
                refine RegI.done (by kernel_rfl) ?_
                refine RunsI.only [0, 2, 4, 6] [(0, .slice pA0 p0.length pc0), (2, .pointer (some ⟨b2, 0, none⟩)), (4, .int .i64 (IntKind.wrap .i64 (t58 + 2))), (6, .pointer (some ⟨b7, 0, none⟩))] (by kernel_rfl) (by kernel_rfl) ?_
                exact hj162 (IntKind.wrap .i64 (t58 + 2)) t129 0 w130 h (h131.pick [0, 1, 2] (by decide))
              · skip
                refine RunsI.fix 84 false hc124 (by kernel_rfl) (by kernel_rfl) ?_
                refine RunsI.cond false 61 (by kernel_rfl) ?_
                refine RunsI.go 1 [.c 62, .c 63, .blk 2, .c 74] (by kernel_rfl) ?_
                refine RunsI.region (by kernel_rfl) ?_
                refine RegI.pure 2 [0, 2, 4, 6, 51, 52] [(0, .slice pA0 p0.length pc0), (2, .pointer (some ⟨b2, 0, none⟩)), (4, .int .i64 t58), (6, .pointer (some ⟨b7, 0, none⟩)), (51, .slice pA0 p0.length pc0), (52, .int .i64 t58)] (by kernel_rfl) ?_
                obtain ⟨t137, hg136, h⟩ := of_bind h
                refine RegI.op (by kernel_rfl) (OpE.call 53 (by kernel_rfl) 30 #[.slice pA0 p0.length pc0, .int .i64 t58] (by kernel_rfl) ((charabancref08_at_30_ok K _ w120  pA0 pc0 p0 t58 h119.old' (h119.get 0 rfl) hg136).mono ?_))
                rintro _ w133 ⟨rfl, hb134⟩
                refine ⟨_, rfl, ?_⟩
                have h135 := h119.call hb134
                refine RegI.pure 1 [0, 2, 4, 6, 53, 54] [(0, .slice pA0 p0.length pc0), (2, .pointer (some ⟨b2, 0, none⟩)), (4, .int .i64 t58), (6, .pointer (some ⟨b7, 0, none⟩)), (53, .int .u8 t137), (54, .pointer (some ⟨b7, 1, none⟩))] (by kernel_rfl) ?_
                refine RegI.op (by kernel_rfl) (OpE.storeBox 2 5 b7 1 (.int .u8 t137) [.int .i64 t72, .int .u8 t137, .int .u8 0, .int .u16 0, .int .i64 0, .int .i64 t87] h135 (by kernel_rfl) (by kernel_rfl) rfl (by kernel_rfl) (by kernel_rfl) (by kernel_rfl) ?_)
                intro w138 h139 hk140
                refine RegI.done (by kernel_rfl) ?_
                refine RunsI.go 1 [.c 64, .c 65, .blk 2, .c 74] (by kernel_rfl) ?_
                refine RunsI.region (by kernel_rfl) ?_
                refine RegI.pure 3 [0, 2, 4, 6] [(0, .slice pA0 p0.length pc0), (2, .pointer (some ⟨b2, 0, none⟩)), (4, .int .i64 (IntKind.wrap .i64 (t58 + 1))), (6, .pointer (some ⟨b7, 0, none⟩))] (by kernel_rfl) ?_
                refine RegI.done (by kernel_rfl) ?_
                refine RunsI.go 1 [.c 66, .c 67, .blk 2, .c 74] (by kernel_rfl) ?_
                refine RunsI.region (by kernel_rfl) ?_
                refine RegI.pure 1 [0, 2, 4, 6, 57] [(0, .slice pA0 p0.length pc0), (2, .pointer (some ⟨b2, 0, none⟩)), (4, .int .i64 (IntKind.wrap .i64 (t58 + 1))), (6, .pointer (some ⟨b7, 0, none⟩)), (57, .pointer (some ⟨b7, 0, none⟩))] (by kernel_rfl) ?_
                refine RegI.op (by kernel_rfl) (OpE.loadBox 58 2 3 b7 0 (.int .i64 t72) h139 (by kernel_rfl) (by kernel_rfl) rfl (by kernel_rfl) ?_)
                refine RegI.pure 1 [0, 2, 4, 6, 58, 59] [(0, .slice pA0 p0.length pc0), (2, .pointer (some ⟨b2, 0, none⟩)), (4, .int .i64 (IntKind.wrap .i64 (t58 + 1))), (6, .pointer (some ⟨b7, 0, none⟩)), (58, .int .i64 t72), (59, .pointer (some ⟨b7, 1, none⟩))] (by kernel_rfl) ?_
                refine RegI.op (by kernel_rfl) (OpE.loadBox 60 2 5 b7 1 (.int .u8 t137) h139 (by kernel_rfl) (by kernel_rfl) rfl (by kernel_rfl) ?_)
                obtain ⟨t145, hg144, h⟩ := of_bind h
                refine RegI.op (by kernel_rfl) (OpE.call 61 (by kernel_rfl) 14 #[.int .i64 t72, .int .u8 t137] (by kernel_rfl) ((charabancref08_Near_14_ok K _ w138  t72 t137 h139.old' hg144).mono ?_))
                rintro _ w141 ⟨rfl, hb142⟩
                refine ⟨_, rfl, ?_⟩
                have h143 := h139.call hb142
                refine RegI.pure 1 [0, 2, 4, 6, 7] [(0, .slice pA0 p0.length pc0), (2, .pointer (some ⟨b2, 0, none⟩)), (4, .int .i64 (IntKind.wrap .i64 (t58 + 1))), (6, .pointer (some ⟨b7, 0, none⟩)), (7, .bool t145)] (by kernel_rfl) ?_
                refine RegI.done (by kernel_rfl) ?_
                refine RunsI.go 1 [.c 68, .c 69, .blk 2, .c 74] (by kernel_rfl) ?_
                refine RunsI.region (by kernel_rfl) ?_
                refine RegI.pure 1 [0, 2, 4, 6, 62] [(0, .slice pA0 p0.length pc0), (2, .pointer (some ⟨b2, 0, none⟩)), (4, .int .i64 (IntKind.wrap .i64 (t58 + 1))), (6, .pointer (some ⟨b7, 0, none⟩)), (62, .bool t145)] (by kernel_rfl) ?_
                refine RegI.done (by kernel_rfl) ?_
                rcases of_cond h with ⟨hc146, h⟩ | ⟨hc146, h⟩
                · skip
                  refine RunsI.fix 62 true hc146 (by kernel_rfl) (by kernel_rfl) ?_
                  refine RunsI.cond true 70 (by kernel_rfl) ?_
                  refine RunsI.go 1 [.c 71, .c 72, .blk 2, .c 74] (by kernel_rfl) ?_
                  refine RunsI.region (by kernel_rfl) ?_
                  refine RegI.pure 2 [0, 2, 4, 6, 63, 64] [(0, .slice pA0 p0.length pc0), (2, .pointer (some ⟨b2, 0, none⟩)), (4, .int .i64 (IntKind.wrap .i64 (t58 + 1))), (6, .pointer (some ⟨b7, 0, none⟩)), (63, .slice pA0 p0.length pc0), (64, .int .i64 (IntKind.wrap .i64 (t58 + 1)))] (by kernel_rfl) ?_
                  obtain ⟨t151, hg150, h⟩ := of_bind h
                  refine RegI.op (by kernel_rfl) (OpE.call 65 (by kernel_rfl) 30 #[.slice pA0 p0.length pc0, .int .i64 (IntKind.wrap .i64 (t58 + 1))] (by kernel_rfl) ((charabancref08_at_30_ok K _ w141  pA0 pc0 p0 (IntKind.wrap .i64 (t58 + 1)) h143.old' (h143.get 0 rfl) hg150).mono ?_))
                  rintro _ w147 ⟨rfl, hb148⟩
                  refine ⟨_, rfl, ?_⟩
                  have h149 := h143.call hb148
                  refine RegI.pure 1 [0, 2, 4, 6, 65, 66] [(0, .slice pA0 p0.length pc0), (2, .pointer (some ⟨b2, 0, none⟩)), (4, .int .i64 (IntKind.wrap .i64 (t58 + 1))), (6, .pointer (some ⟨b7, 0, none⟩)), (65, .int .u8 t151), (66, .pointer (some ⟨b7, 2, none⟩))] (by kernel_rfl) ?_
                  refine RegI.op (by kernel_rfl) (OpE.storeBox 2 5 b7 2 (.int .u8 t151) [.int .i64 t72, .int .u8 t137, .int .u8 t151, .int .u16 0, .int .i64 0, .int .i64 t87] h149 (by kernel_rfl) (by kernel_rfl) rfl (by kernel_rfl) (by kernel_rfl) (by kernel_rfl) ?_)
                  intro w152 h153 hk154
                  refine RegI.done (by kernel_rfl) ?_
                  refine RunsI.region (by kernel_rfl) ?_
                  refine RegI.pure 3 [0, 2, 4, 6] [(0, .slice pA0 p0.length pc0), (2, .pointer (some ⟨b2, 0, none⟩)), (4, .int .i64 (IntKind.wrap .i64 ((IntKind.wrap .i64 (t58 + 1)) + 1))), (6, .pointer (some ⟨b7, 0, none⟩))] (by kernel_rfl) ?_
                  refine RegI.done (by kernel_rfl) ?_
                  refine RunsI.only [0, 2, 4, 6] [(0, .slice pA0 p0.length pc0), (2, .pointer (some ⟨b2, 0, none⟩)), (4, .int .i64 (IntKind.wrap .i64 ((IntKind.wrap .i64 (t58 + 1)) + 1))), (6, .pointer (some ⟨b7, 0, none⟩))] (by kernel_rfl) (by kernel_rfl) ?_
                  exact hj162 (IntKind.wrap .i64 ((IntKind.wrap .i64 (t58 + 1)) + 1)) t137 t151 w152 h (h153.pick [0, 1, 2] (by decide))
                · skip
                  refine RunsI.fix 62 false hc146 (by kernel_rfl) (by kernel_rfl) ?_
                  refine RunsI.cond false 73 (by kernel_rfl) ?_
                  refine RunsI.go 1 [.blk 2, .c 74] (by kernel_rfl) ?_
                  refine RunsI.only [0, 2, 4, 6] [(0, .slice pA0 p0.length pc0), (2, .pointer (some ⟨b2, 0, none⟩)), (4, .int .i64 (IntKind.wrap .i64 (t58 + 1))), (6, .pointer (some ⟨b7, 0, none⟩))] (by kernel_rfl) (by kernel_rfl) ?_
                  exact hj162 (IntKind.wrap .i64 (t58 + 1)) t137 0 w141 h (h143.pick [0, 1, 2] (by decide))
            clear hJ122
            rcases of_cond h with ⟨hc117, h⟩ | ⟨hc117, h⟩
            · skip
              refine RunsI.fix 84 true hc117 (by kernel_rfl) (by kernel_rfl) ?_
              refine RunsI.cond true 55 (by kernel_rfl) ?_
              refine RunsI.go 1 [.c 57, .blk 2, .c 74] (by kernel_rfl) ?_
              refine RunsI.only [0, 2, 4, 6, 84] [(0, .slice pA0 p0.length pc0), (2, .pointer (some ⟨b2, 0, none⟩)), (4, .int .i64 t58), (6, .pointer (some ⟨b7, 0, none⟩)), (84, .bool true)] (by kernel_rfl) (by kernel_rfl) ?_
              exact hj123 true w96 h (h95.pick [0, 1, 2] (by decide))
            · skip
              refine RunsI.fix 84 false hc117 (by kernel_rfl) (by kernel_rfl) ?_
              refine RunsI.cond false 56 (by kernel_rfl) ?_
              refine RunsI.region (by kernel_rfl) ?_
              refine RegI.pure 2 [0, 2, 4, 6, 84] [(0, .slice pA0 p0.length pc0), (2, .pointer (some ⟨b2, 0, none⟩)), (4, .int .i64 t58), (6, .pointer (some ⟨b7, 0, none⟩)), (84, .bool (t72 == 2))] (by kernel_rfl) ?_
              refine RegI.done (by kernel_rfl) ?_
              refine RunsI.only [0, 2, 4, 6, 84] [(0, .slice pA0 p0.length pc0), (2, .pointer (some ⟨b2, 0, none⟩)), (4, .int .i64 t58), (6, .pointer (some ⟨b7, 0, none⟩)), (84, .bool (t72 == 2))] (by kernel_rfl) (by kernel_rfl) ?_
              exact hj123 (t72 == 2) w96 h (h95.pick [0, 1, 2] (by decide))
        clear hJ98
        rcases of_cond h with ⟨hc93, h⟩ | ⟨hc93, h⟩
        · skip
          refine RunsI.fix 69 true hc93 (by kernel_rfl) (by kernel_rfl) ?_
          refine RunsI.cond true 43 (by kernel_rfl) ?_
          refine RunsI.go 1 [.c 45, .blk 2, .c 74] (by kernel_rfl) ?_
          refine RunsI.only [0, 2, 4, 6, 50, 69] [(0, .slice pA0 p0.length pc0), (2, .pointer (some ⟨b2, 0, none⟩)), (4, .int .i64 t58), (6, .pointer (some ⟨b7, 0, none⟩)), (50, .int .i64 t72), (69, .bool true)] (by kernel_rfl) (by kernel_rfl) ?_
          exact hj99 true w89 h (h88.pick [0, 1, 2] (by decide))
        · skip
          refine RunsI.fix 69 false hc93 (by kernel_rfl) (by kernel_rfl) ?_
          refine RunsI.cond false 44 (by kernel_rfl) ?_
          refine RunsI.region (by kernel_rfl) ?_
          refine RegI.pure 2 [0, 2, 4, 6, 50, 69] [(0, .slice pA0 p0.length pc0), (2, .pointer (some ⟨b2, 0, none⟩)), (4, .int .i64 t58), (6, .pointer (some ⟨b7, 0, none⟩)), (50, .int .i64 t72), (69, .bool (t72 == 6))] (by kernel_rfl) ?_
          refine RegI.done (by kernel_rfl) ?_
          refine RunsI.only [0, 2, 4, 6, 50, 69] [(0, .slice pA0 p0.length pc0), (2, .pointer (some ⟨b2, 0, none⟩)), (4, .int .i64 t58), (6, .pointer (some ⟨b7, 0, none⟩)), (50, .int .i64 t72), (69, .bool (t72 == 6))] (by kernel_rfl) (by kernel_rfl) ?_
          exact hj99 (t72 == 6) w89 h (h88.pick [0, 1, 2] (by decide))
      clear hJ91
      rcases of_cond h with ⟨hc83, h⟩ | ⟨hc83, h⟩
      · skip
        refine RunsI.fix 44 true hc83 (by kernel_rfl) (by kernel_rfl) ?_
        refine RunsI.cond true 33 (by kernel_rfl) ?_
        refine RunsI.region (by kernel_rfl) ?_
        refine RegI.pure 1 [0, 2, 4, 6, 45] [(0, .slice pA0 p0.length pc0), (2, .pointer (some ⟨b2, 0, none⟩)), (4, .int .i64 t58), (6, .pointer (some ⟨b7, 0, none⟩)), (45, .pointer (some ⟨b7, 5, none⟩))] (by kernel_rfl) ?_
        refine RegI.op (by kernel_rfl) (OpE.loadBox 46 2 3 b7 5 (.int .i64 t60) h78 (by kernel_rfl) (by kernel_rfl) rfl (by kernel_rfl) ?_)
        refine RegI.pure 2 [0, 2, 4, 6, 47, 48] [(0, .slice pA0 p0.length pc0), (2, .pointer (some ⟨b2, 0, none⟩)), (4, .int .i64 t58), (6, .pointer (some ⟨b7, 0, none⟩)), (47, .int .i64 (IntKind.wrap .i64 (t60 + 1))), (48, .pointer (some ⟨b7, 5, none⟩))] (by kernel_rfl) ?_
        refine RegI.op (by kernel_rfl) (OpE.storeBox 2 3 b7 5 (.int .i64 (IntKind.wrap .i64 (t60 + 1))) [.int .i64 t72, .int .u8 0, .int .u8 0, .int .u16 0, .int .i64 0, .int .i64 (IntKind.wrap .i64 (t60 + 1))] h78 (by kernel_rfl) (by kernel_rfl) rfl (by kernel_rfl) (by kernel_rfl) (by kernel_rfl) ?_)
        intro w84 h85 hk86
        refine RegI.done (by kernel_rfl) ?_
        refine RunsI.only [0, 2, 4, 6] [(0, .slice pA0 p0.length pc0), (2, .pointer (some ⟨b2, 0, none⟩)), (4, .int .i64 t58), (6, .pointer (some ⟨b7, 0, none⟩))] (by kernel_rfl) (by kernel_rfl) ?_
        exact hj92 (IntKind.wrap .i64 (t60 + 1)) w84 h (h85.pick [0, 1, 2] (by decide))
      · skip
        refine RunsI.fix 44 false hc83 (by kernel_rfl) (by kernel_rfl) ?_
        refine RunsI.cond false 34 (by kernel_rfl) ?_
        refine RunsI.go 1 [.c 35] (by kernel_rfl) ?_
        refine RunsI.only [0, 2, 4, 6] [(0, .slice pA0 p0.length pc0), (2, .pointer (some ⟨b2, 0, none⟩)), (4, .int .i64 t58), (6, .pointer (some ⟨b7, 0, none⟩))] (by kernel_rfl) (by kernel_rfl) ?_
        exact hj92 t60 w79 h (h78.pick [0, 1, 2] (by decide))
    clear hJ81
    rcases of_cond h with ⟨hc76, h⟩ | ⟨hc76, h⟩
    · skip
      refine RegI.fix 41 true hc76 (by kernel_rfl) (by kernel_rfl) ?_
      refine RegI.pure 3 [0, 2, 4, 6, 44] [(0, .slice pA0 p0.length pc0), (2, .pointer (some ⟨b2, 0, none⟩)), (4, .int .i64 t58), (6, .pointer (some ⟨b7, 0, none⟩)), (44, .bool (decide (t58 > 0)))] (by kernel_rfl) ?_
      refine RegI.only [0, 2, 4, 6, 44] [(0, .slice pA0 p0.length pc0), (2, .pointer (some ⟨b2, 0, none⟩)), (4, .int .i64 t58), (6, .pointer (some ⟨b7, 0, none⟩)), (44, .bool (decide (t58 > 0)))] (by kernel_rfl) (by kernel_rfl) ?_
      exact hj82 (decide (t58 > 0)) w73 h (h74.pick [0, 1, 2] (by decide))
    · skip
      refine RegI.fix 41 false hc76 (by kernel_rfl) (by kernel_rfl) ?_
      refine RegI.pure 3 [0, 2, 4, 6, 44] [(0, .slice pA0 p0.length pc0), (2, .pointer (some ⟨b2, 0, none⟩)), (4, .int .i64 t58), (6, .pointer (some ⟨b7, 0, none⟩)), (44, .bool false)] (by kernel_rfl) ?_
      refine RegI.only [0, 2, 4, 6, 44] [(0, .slice pA0 p0.length pc0), (2, .pointer (some ⟨b2, 0, none⟩)), (4, .int .i64 t58), (6, .pointer (some ⟨b7, 0, none⟩)), (44, .bool false)] (by kernel_rfl) (by kernel_rfl) ?_
      exact hj82 false w73 h (h74.pick [0, 1, 2] (by decide))
end

/-! ### charabanc/charabancref08.All (function 18) -/
section
def charabancref08_All_18.post (M0 : Nat → Prop) (w0 : World) (r : (List (Int × Int × Int × Int × Int × Int)) × Int) : Ending → World → Prop := fun e w => ∃ (A1 : Option Addr) (c1 : Nat), e = .returned (.tuple #[.slice A1 r.1.length c1, .int .i64 r.2]) ∧ Holds M0 w0 w [own (Rp.pair (Rp.int .i64) (Rp.pair (Rp.int .u8) (Rp.pair (Rp.int .u8) (Rp.pair (Rp.int .u16) (Rp.pair (Rp.int .i64) (Rp.int .i64)))))) 30 (.slice A1 r.1.length c1) r.1]
def charabancref08_All_18.l0 (K : Nat) (p0 : List Int) : Nat → (List Int) → (List (Int × Int × Int × Int × Int × Int)) → Option ((List (Int × Int × Int × Int × Int × Int)) × Int)
  | 0, _, _ => none
  | k + 1, t4, t7 => (charabancref08_Next_16.f K t4).bind fun yt12 => cond (!yt12.2.2.2.2.2.2) (some (t7, (t4.length : Int))) (cond (mayBe (t7.length + ([(yt12.1, yt12.2.1, yt12.2.2.1, yt12.2.2.2.1, yt12.2.2.2.2.1, yt12.2.2.2.2.2.1)] : List (Int × Int × Int × Int × Int × Int)).length) 32) (cond (cutR yt12.2.2.2.2.1 (t4.length : Int) t4.length) (charabancref08_All_18.l0 K p0 k (cutL t4 yt12.2.2.2.2.1 (t4.length : Int)) (t7 ++ ([(yt12.1, yt12.2.1, yt12.2.2.1, yt12.2.2.2.1, yt12.2.2.2.2.1, yt12.2.2.2.2.2.1)] : List (Int × Int × Int × Int × Int × Int)))) none) none)
set_option maxRecDepth 100000 in
theorem charabancref08_All_18.l0_ok (K : Nat) (M0 : Nat → Prop) (w0 : World) (pA0 : Option Addr) (pc0 : Nat) (p0 : List Int) (R : Ending → World → Prop) (x : (List (Int × Int × Int × Int × Int × Int)) × Int) (hk0 : ∀ (t45 : List (Int × Int × Int × Int × Int × Int)) (t46 : Int) (A43 : Option Addr) (c44 : Nat) (w1 : World), x = (t45, t46) → Holds M0 w0 w1 [own (Rp.pair (Rp.int .i64) (Rp.pair (Rp.int .u8) (Rp.pair (Rp.int .u8) (Rp.pair (Rp.int .u16) (Rp.pair (Rp.int .i64) (Rp.int .i64)))))) 30 (.slice A43 t45.length c44) t45] → R (.returned (.tuple #[.slice A43 t45.length c44, .int .i64 t46])) w1) :
    ∀ (k : Nat) (t4 : List Int) (t7 : List (Int × Int × Int × Int × Int × Int)) (A2 : Option Addr) (c3 : Nat) (A5 : Option Addr) (c6 : Nat) (w : World), charabancref08_All_18.l0 K p0 k t4 t7 = some x → Holds M0 w0 w [sl (Rp.int .u8) (.slice A2 t4.length c3) t4, own (Rp.pair (Rp.int .i64) (Rp.pair (Rp.int .u8) (Rp.pair (Rp.int .u8) (Rp.pair (Rp.int .u16) (Rp.pair (Rp.int .i64) (Rp.int .i64)))))) 30 (.slice A5 t7.length c6) t7] → RunsI F18 [.c 6, .lp 6, .blk 0] [(0, .slice A2 t4.length c3), (4, .slice A5 t7.length c6)] w R := by
  intro k
  induction k with
  | zero => intro t4 t7 A2 c3 A5 c6 w h hH; exact absurd h (by simp [charabancref08_All_18.l0])
  | succ k ih =>
    intro t4 t7 A2 c3 A5 c6 w h hH
    rw [charabancref08_All_18.l0.eq_2] at h
    refine RunsI.go 1 [.c 7, .blk 1, .lp 6, .blk 0] (by kernel_rfl) ?_
    refine RunsI.go 1 [.c 8, .c 9, .blk 1, .lp 6, .blk 0] (by kernel_rfl) ?_
    refine RunsI.region (by kernel_rfl) ?_
    refine RegI.pure 1 [0, 4, 8] [(0, .slice A2 t4.length c3), (4, .slice A5 t7.length c6), (8, .slice A2 t4.length c3)] (by kernel_rfl) ?_
    obtain ⟨⟨t12, t13, t14, t15, t16, t17, t18⟩, hg11, h⟩ := of_bind h
    dsimp only at h
    refine RegI.op (by kernel_rfl) (OpE.call 9 (by kernel_rfl) 16 #[.slice A2 t4.length c3] (by kernel_rfl) ((charabancref08_Next_16_ok K _ w  A2 c3 t4 hH.old' (hH.get 0 rfl) hg11).mono ?_))
    rintro _ w8 ⟨rfl, hb9⟩
    refine ⟨_, rfl, ?_⟩
    have h10 := hH.call hb9
    refine RegI.pure 3 [0, 4, 10, 11] [(0, .slice A2 t4.length c3), (4, .slice A5 t7.length c6), (10, .agg #[.int .i64 t12, .int .u8 t13, .int .u8 t14, .int .u16 t15, .int .i64 t16, .int .i64 t17]), (11, .bool t18)] (by kernel_rfl) ?_
    refine RegI.op (by kernel_rfl) (OpE.box 5 30 [.int .i64 0, .int .u8 0, .int .u8 0, .int .u16 0, .int .i64 0, .int .i64 0] h10 (by kernel_rfl) (by kernel_rfl) ?_)
    intro w19 b20 h21 hb22 hn23
    refine RegI.op (by kernel_rfl) (OpE.storeBox 2 30 b20 0 (.agg #[.int .i64 t12, .int .u8 t13, .int .u8 t14, .int .u16 t15, .int .i64 t16, .int .i64 t17]) [.int .i64 t12, .int .u8 t13, .int .u8 t14, .int .u16 t15, .int .i64 t16, .int .i64 t17] h21 (by kernel_rfl) (by kernel_rfl) rfl (by kernel_rfl) (by kernel_rfl) (by kernel_rfl) ?_)
    intro w24 h25 hk26
    refine RegI.pure 1 [0, 4, 5, 6] [(0, .slice A2 t4.length c3), (4, .slice A5 t7.length c6), (5, .pointer (some ⟨b20, 0, none⟩)), (6, .bool t18)] (by kernel_rfl) ?_
    refine RegI.done (by kernel_rfl) ?_
    refine RunsI.go 2 [.c 11, .c 12, .c 17, .blk 1, .lp 6, .blk 0] (by kernel_rfl) ?_
    refine RunsI.region (by kernel_rfl) ?_
    refine RegI.pure 2 [0, 4, 5, 13] [(0, .slice A2 t4.length c3), (4, .slice A5 t7.length c6), (5, .pointer (some ⟨b20, 0, none⟩)), (13, .bool (!t18))] (by kernel_rfl) ?_
    refine RegI.done (by kernel_rfl) ?_
    rcases of_cond h with ⟨hc27, h⟩ | ⟨hc27, h⟩
    · skip
      refine RunsI.fix 13 true hc27 (by kernel_rfl) (by kernel_rfl) ?_
      refine RunsI.cond true 13 (by kernel_rfl) ?_
      refine RunsI.go 1 [.c 14, .c 15, .c 17, .blk 1, .lp 6, .blk 0] (by kernel_rfl) ?_
      refine RunsI.region (by kernel_rfl) ?_
      refine RegI.pure 5 [2, 3] [(2, .slice A5 t7.length c6), (3, .int .i64 (t4.length : Int))] (by kernel_rfl) ?_
      refine RegI.done (by kernel_rfl) ?_
      refine RunsI.ret (.tuple #[.slice A5 t7.length c6, .int .i64 (t4.length : Int)]) (by kernel_rfl) (by kernel_rfl) ?_
      exact hk0 t7 (t4.length : Int) A5 c6 w24 (Option.some.inj h).symm (h25.pick [1] (by decide))
    · skip
      refine RunsI.fix 13 false hc27 (by kernel_rfl) (by kernel_rfl) ?_
      refine RunsI.cond false 16 (by kernel_rfl) ?_
      refine RunsI.go 1 [.c 17, .blk 1, .lp 6, .blk 0] (by kernel_rfl) ?_
      refine RunsI.go 1 [.c 18, .c 19, .blk 1, .lp 6, .blk 0] (by kernel_rfl) ?_
      refine RunsI.region (by kernel_rfl) ?_
      refine RegI.pure 1 [0, 5, 17] [(0, .slice A2 t4.length c3), (5, .pointer (some ⟨b20, 0, none⟩)), (17, .slice A5 t7.length c6)] (by kernel_rfl) ?_
      refine RegI.op (by kernel_rfl) (OpE.loadBox 18 2 30 b20 0 (.agg #[.int .i64 t12, .int .u8 t13, .int .u8 t14, .int .u16 t15, .int .i64 t16, .int .i64 t17]) h25 (by kernel_rfl) (by kernel_rfl) rfl (by kernel_rfl) ?_)
      refine RegI.op (by kernel_rfl) (OpE.lit 19 30 [.int .i64 t12, .int .u8 t13, .int .u8 t14, .int .u16 t15, .int .i64 t16, .int .i64 t17] 1 h25 (by kernel_rfl) (by kernel_rfl) ?_)
      intro w28 b29 h30 hb31 hn32
      obtain ⟨hc33, h⟩ := of_cond0 h
      refine RegI.op (by kernel_rfl) (OpE.appendBox 20 1 3 33 30 32 ([(t12, t13, t14, t15, t16, t17)] : List (Int × Int × Int × Int × Int × Int)) 0 h30 (by kernel_rfl) (by kernel_rfl) (by kernel_rfl) rfl rfl rfl (⟨[_, _, _, _, _, _], _, rfl, ⟨[_], [_, _, _, _, _], rfl, rfl, ⟨[_], [_, _, _, _], rfl, rfl, ⟨[_], [_, _, _], rfl, rfl, ⟨[_], [_, _], rfl, rfl, ⟨[_], [_], rfl, rfl, rfl⟩⟩⟩⟩⟩, rfl⟩) hc33 ?_)
      intro w34 A35 c36 h37 hk38
      refine RegI.pure 1 [0, 4, 5] [(0, .slice A2 t4.length c3), (4, .slice A35 ((t7 ++ ([(t12, t13, t14, t15, t16, t17)] : List (Int × Int × Int × Int × Int × Int))).length) c36), (5, .pointer (some ⟨b20, 0, none⟩))] (by kernel_rfl) ?_
      refine RegI.done (by kernel_rfl) ?_
      refine RunsI.region (by kernel_rfl) ?_
      refine RegI.pure 2 [4, 21, 22] [(4, .slice A35 ((t7 ++ ([(t12, t13, t14, t15, t16, t17)] : List (Int × Int × Int × Int × Int × Int))).length) c36), (21, .slice A2 t4.length c3), (22, .pointer (some ⟨b20, 4, none⟩))] (by kernel_rfl) ?_
      refine RegI.op (by kernel_rfl) (OpE.loadBox 23 2 3 b20 4 (.int .i64 t16) h37 (by kernel_rfl) (by kernel_rfl) rfl (by kernel_rfl) ?_)
      obtain ⟨hc39, h⟩ := of_cond0 h
      refine RegI.op (by kernel_rfl) (OpE.cutSl 24 0 27 (some t16) none h37 (by kernel_rfl) rfl (by kernel_rfl) (by kernel_rfl) hc39 ?_)
      intro A40 c41 h42
      refine RegI.pure 1 [0, 4] [(0, .slice A40 ((cutL t4 t16 (t4.length : Int)).length) c41), (4, .slice A35 ((t7 ++ ([(t12, t13, t14, t15, t16, t17)] : List (Int × Int × Int × Int × Int × Int))).length) c36)] (by kernel_rfl) ?_
      refine RegI.done (by kernel_rfl) ?_
      refine RunsI.go 2 [.c 6, .lp 6, .blk 0] (by kernel_rfl) ?_
      refine RunsI.only [0, 4] [(0, .slice A40 ((cutL t4 t16 (t4.length : Int)).length) c41), (4, .slice A35 ((t7 ++ ([(t12, t13, t14, t15, t16, t17)] : List (Int × Int × Int × Int × Int × Int))).length) c36)] (by kernel_rfl) (by kernel_rfl) ?_
      exact ih (cutL t4 t16 (t4.length : Int)) (t7 ++ ([(t12, t13, t14, t15, t16, t17)] : List (Int × Int × Int × Int × Int × Int))) A40 c41 A35 c36 w34 h (h42.pick [4, 1] (by decide))
def charabancref08_All_18.f (K : Nat) (p0 : List Int) : Option ((List (Int × Int × Int × Int × Int × Int)) × Int) := (charabancref08_All_18.l0 K p0 K p0 ([] : List (Int × Int × Int × Int × Int × Int))).bind (fun yx47 => some (yx47.1, yx47.2))
set_option maxRecDepth 100000 in
theorem charabancref08_All_18_ok (K : Nat) (M0 : Nat → Prop) (w0 : World) (pA0 : Option Addr) (pc0 : Nat) (p0 : List Int) (ho : ∀ b, M0 b → b < w0.heap.size) (hs0 : Sl (Rp.int .u8) w0 M0 (.slice pA0 p0.length pc0) p0) {r : (List (Int × Int × Int × Int × Int × Int)) × Int} (h : charabancref08_All_18.f K p0 = some r) :
    Calls Try.prog 18 #[.slice pA0 p0.length pc0] w0 (charabancref08_All_18.post M0 w0 r) := by
  unfold charabancref08_All_18.f at h
  have h0 : Holds M0 w0 w0 [] := Holds.start ho
  have h00 := h0.addSl (Rp.int .u8) (.slice pA0 p0.length pc0) p0 (hs0.mono (fun _ _ hm => hm.elim id (fun hm => absurd hm (by simp [mines, sl]))))
  have h0 : Holds M0 w0 w0 [sl (Rp.int .u8) (.slice pA0 p0.length pc0) p0] := h00
  refine calls_of F18 rfl [.slice pA0 p0.length pc0] (by kernel_rfl) ?_
  refine RunsI.go 1 [.c 1, .c 2] (by kernel_rfl) ?_
  refine RunsI.region (by kernel_rfl) ?_
  refine RegI.pure 2 [0] [(0, .slice pA0 p0.length pc0)] (by kernel_rfl) ?_
  refine RegI.done (by kernel_rfl) ?_
  refine RunsI.go 1 [.c 3, .c 4] (by kernel_rfl) ?_
  refine RunsI.region (by kernel_rfl) ?_
  refine RegI.pure 1 [0, 4] [(0, .slice pA0 p0.length pc0), (4, .slice none 0 0)] (by kernel_rfl) ?_
  refine RegI.done (by kernel_rfl) ?_
  refine RunsI.go 2 [.c 6, .lp 6, .blk 0] (by kernel_rfl) ?_
  obtain ⟨x47, hx48, h⟩ := of_bind h
  have h1 := h0.addOwnNil (Rp.pair (Rp.int .i64) (Rp.pair (Rp.int .u8) (Rp.pair (Rp.int .u8) (Rp.pair (Rp.int .u16) (Rp.pair (Rp.int .i64) (Rp.int .i64)))))) 30
  refine RunsI.only [0, 4] [(0, .slice pA0 p0.length pc0), (4, .slice none (([] : List (Int × Int × Int × Int × Int × Int)).length) 0)] (by kernel_rfl) (by kernel_rfl) ?_
  refine charabancref08_All_18.l0_ok K M0 w0 pA0 pc0 p0 _ x47 ?_ K p0 ([] : List (Int × Int × Int × Int × Int × Int)) pA0 pc0 none 0 w0 hx48 (h1.pick [0, 1] (by decide))
  · intro t51 t52 A49 c50 w54 hq55 h53
    (try rw [hq55] at h)
    dsimp only at h
    obtain rfl := Option.some.inj h
    exact ⟨A49, c50, rfl, h53.pick [0] (by decide)⟩
end

/-! ### charabanc/charabancref08.Same (function 19) -/
section
def charabancref08_Same_19.post (M0 : Nat → Prop) (w0 : World) (r : Bool) : Ending → World → Prop := fun e w => e = .returned (.bool r) ∧ Below w0.heap.size w0 w
def charabancref08_Same_19.l0 (K : Nat) (p0 : List (Int × Int × Int × Int × Int × Int)) (p1 : List (Int × Int × Int × Int × Int × Int)) : Nat → Int → Option (Lp Unit Unit)
  | 0, _ => none
  | k + 1, t2 => cond (decide (t2 < (p0.length : Int))) (cond (inR t2 p0.length) (cond (inR t2 p1.length) (cond (!((((rdD p0 t2).1) == ((rdD p1 t2).1)) && ((((rdD p0 t2).2.1) == ((rdD p1 t2).2.1)) && ((((rdD p0 t2).2.2.1) == ((rdD p1 t2).2.2.1)) && ((((rdD p0 t2).2.2.2.1) == ((rdD p1 t2).2.2.2.1)) && ((((rdD p0 t2).2.2.2.2.1) == ((rdD p1 t2).2.2.2.2.1)) && ((((rdD p0 t2).2.2.2.2.2) == ((rdD p1 t2).2.2.2.2.2)) && true))))))) (some (Lp.ret ())) (charabancref08_Same_19.l0 K p0 p1 k (IntKind.wrap .i64 (t2 + 1)))) none) none) (some (Lp.go ()))
set_option maxRecDepth 100000 in
theorem charabancref08_Same_19.l0_ok (K : Nat) (M0 : Nat → Prop) (w0 : World) (pA0 : Option Addr) (pc0 : Nat) (pA1 : Option Addr) (pc1 : Nat) (p0 : List (Int × Int × Int × Int × Int × Int)) (p1 : List (Int × Int × Int × Int × Int × Int)) (R : Ending → World → Prop) (x : Lp Unit Unit) (hk0 : ∀ (w1 : World), x = Lp.go () → Holds M0 w0 w1 [] → RunsI F19 [.c 31] [] w1 R) (hk1 : ∀ (w1 : World), x = Lp.ret () → Holds M0 w0 w1 [] → R (.returned (.bool false)) w1) :
    ∀ (k : Nat) (t2 : Int) (w : World), charabancref08_Same_19.l0 K p0 p1 k t2 = some x → Holds M0 w0 w [sl (Rp.pair (Rp.int .i64) (Rp.pair (Rp.int .u8) (Rp.pair (Rp.int .u8) (Rp.pair (Rp.int .u16) (Rp.pair (Rp.int .i64) (Rp.int .i64)))))) (.slice pA0 p0.length pc0) p0, sl (Rp.pair (Rp.int .i64) (Rp.pair (Rp.int .u8) (Rp.pair (Rp.int .u8) (Rp.pair (Rp.int .u16) (Rp.pair (Rp.int .i64) (Rp.int .i64)))))) (.slice pA1 p1.length pc1) p1] → RunsI F19 [.c 15, .lp 15, .blk 0, .c 31] [(0, .slice pA0 p0.length pc0), (1, .slice pA1 p1.length pc1), (5, .int .i64 t2)] w R := by
  intro k
  induction k with
  | zero => intro t2 w h hH; exact absurd h (by simp [charabancref08_Same_19.l0])
  | succ k ih =>
    intro t2 w h hH
    rw [charabancref08_Same_19.l0.eq_2] at h
    refine RunsI.go 1 [.c 16, .c 21, .lp 15, .blk 0, .c 31] (by kernel_rfl) ?_
    refine RunsI.go 1 [.c 17, .c 18, .c 21, .lp 15, .blk 0, .c 31] (by kernel_rfl) ?_
    refine RunsI.region (by kernel_rfl) ?_
    refine RegI.pure 4 [0, 1, 5, 14] [(0, .slice pA0 p0.length pc0), (1, .slice pA1 p1.length pc1), (5, .int .i64 t2), (14, .bool (decide (t2 < (p0.length : Int))))] (by kernel_rfl) ?_
    refine RegI.done (by kernel_rfl) ?_
    rcases of_cond h with ⟨hc3, h⟩ | ⟨hc3, h⟩
    · skip
      refine RunsI.fix 14 true hc3 (by kernel_rfl) (by kernel_rfl) ?_
      refine RunsI.cond true 19 (by kernel_rfl) ?_
      refine RunsI.go 1 [.c 21, .lp 15, .blk 0, .c 31] (by kernel_rfl) ?_
      refine RunsI.go 3 [.c 24, .c 25, .blk 1, .c 30, .lp 15, .blk 0, .c 31] (by kernel_rfl) ?_
      refine RunsI.any 9 (by kernel_rfl) (by kernel_rfl) (by kernel_rfl) (Kp ([] : List Nat) (World.drew w)) ?_
      have h5 := hH.drew
      generalize World.drew w = w4 at h5 ⊢
      have hS6 := Kp.refl ([] : List Nat) w4
      refine AnyE.pure 0 17 (.slice pA0 p0.length pc0) (by kernel_rfl) hS6 (fun _ => by kernel_rfl) ?_
      refine AnyE.pure 1 18 (.int .i64 t2) (by kernel_rfl) hS6 (fun _ => by kernel_rfl) ?_
      obtain ⟨hc8, h⟩ := of_cond0 h
      refine AnyE.idxSl 2 19 0 33 t2 h5 (by kernel_rfl) hS6 rfl (by kernel_rfl) (by kernel_rfl) hc8 ?_
      intro b9 o10 cs11 hk12 h13
      obtain ⟨_, _, rfl, rfl, ⟨_, _, rfl, rfl, ⟨_, _, rfl, rfl, ⟨_, _, rfl, rfl, ⟨_, _, rfl, rfl, rfl⟩⟩⟩⟩⟩ := hk12
      refine AnyE.loadCel 3 20 2 30 b9 o10 0 (.agg #[.int .i64 ((rdD p0 t2).1), .int .u8 ((rdD p0 t2).2.1), .int .u8 ((rdD p0 t2).2.2.1), .int .u16 ((rdD p0 t2).2.2.2.1), .int .i64 ((rdD p0 t2).2.2.2.2.1), .int .i64 ((rdD p0 t2).2.2.2.2.2)]) [] h13 rfl (by kernel_rfl) hS6 rfl rfl (by kernel_rfl) (by kernel_rfl) ?_
      refine AnyE.pure 4 21 (.slice pA1 p1.length pc1) (by kernel_rfl) hS6 (fun _ => by kernel_rfl) ?_
      refine AnyE.pure 5 22 (.int .i64 t2) (by kernel_rfl) hS6 (fun _ => by kernel_rfl) ?_
      obtain ⟨hc14, h⟩ := of_cond0 h
      refine AnyE.idxSl 6 23 1 33 t2 h13 (by kernel_rfl) hS6 rfl (by kernel_rfl) (by kernel_rfl) hc14 ?_
      intro b15 o16 cs17 hk18 h19
      obtain ⟨_, _, rfl, rfl, ⟨_, _, rfl, rfl, ⟨_, _, rfl, rfl, ⟨_, _, rfl, rfl, ⟨_, _, rfl, rfl, rfl⟩⟩⟩⟩⟩ := hk18
      refine AnyE.loadCel 7 24 3 30 b15 o16 0 (.agg #[.int .i64 ((rdD p1 t2).1), .int .u8 ((rdD p1 t2).2.1), .int .u8 ((rdD p1 t2).2.2.1), .int .u16 ((rdD p1 t2).2.2.2.1), .int .i64 ((rdD p1 t2).2.2.2.2.1), .int .i64 ((rdD p1 t2).2.2.2.2.2)]) [] h19 rfl (by kernel_rfl) hS6 rfl rfl (by kernel_rfl) (by kernel_rfl) ?_
      refine AnyE.run 8 25 (.bool (!((((rdD p0 t2).1) == ((rdD p1 t2).1)) && ((((rdD p0 t2).2.1) == ((rdD p1 t2).2.1)) && ((((rdD p0 t2).2.2.1) == ((rdD p1 t2).2.2.1)) && ((((rdD p0 t2).2.2.2.1) == ((rdD p1 t2).2.2.2.1)) && ((((rdD p0 t2).2.2.2.2.1) == ((rdD p1 t2).2.2.2.2.1)) && ((((rdD p0 t2).2.2.2.2.2) == ((rdD p1 t2).2.2.2.2.2)) && true)))))))) (by kernel_rfl) hS6 (fun _ hk => run_eqS (neg := true) (t := 30) (x := .agg #[.int .i64 ((rdD p0 t2).1), .int .u8 ((rdD p0 t2).2.1), .int .u8 ((rdD p0 t2).2.2.1), .int .u16 ((rdD p0 t2).2.2.2.1), .int .i64 ((rdD p0 t2).2.2.2.2.1), .int .i64 ((rdD p0 t2).2.2.2.2.2)]) (y := .agg #[.int .i64 ((rdD p1 t2).1), .int .u8 ((rdD p1 t2).2.1), .int .u8 ((rdD p1 t2).2.2.1), .int .u16 ((rdD p1 t2).2.2.2.1), .int .i64 ((rdD p1 t2).2.2.2.2.1), .int .i64 ((rdD p1 t2).2.2.2.2.2)]) (b := ((((rdD p0 t2).1) == ((rdD p1 t2).1)) && ((((rdD p0 t2).2.1) == ((rdD p1 t2).2.1)) && ((((rdD p0 t2).2.2.1) == ((rdD p1 t2).2.2.1)) && ((((rdD p0 t2).2.2.2.1) == ((rdD p1 t2).2.2.2.1)) && ((((rdD p0 t2).2.2.2.2.1) == ((rdD p1 t2).2.2.2.2.1)) && ((((rdD p0 t2).2.2.2.2.2) == ((rdD p1 t2).2.2.2.2.2)) && true))))))) (by kernel_rfl) (by kernel_rfl) (by kernel_rfl) (by kernel_rfl)) ?_
      refine AnyE.done (by kernel_rfl) (fun w20 hu21 => ?_)
      have h22 := h19.call hu21
      refine RunsI.only [0, 1, 5, 25] [(0, .slice pA0 p0.length pc0), (1, .slice pA1 p1.length pc1), (5, .int .i64 t2), (25, .bool (!((((rdD p0 t2).1) == ((rdD p1 t2).1)) && ((((rdD p0 t2).2.1) == ((rdD p1 t2).2.1)) && ((((rdD p0 t2).2.2.1) == ((rdD p1 t2).2.2.1)) && ((((rdD p0 t2).2.2.2.1) == ((rdD p1 t2).2.2.2.1)) && ((((rdD p0 t2).2.2.2.2.1) == ((rdD p1 t2).2.2.2.2.1)) && ((((rdD p0 t2).2.2.2.2.2) == ((rdD p1 t2).2.2.2.2.2)) && true))))))))] (by kernel_rfl) (by kernel_rfl) ?_
      rcases of_cond h with ⟨hc23, h⟩ | ⟨hc23, h⟩
      · skip
        refine RunsI.fix 25 true hc23 (by kernel_rfl) (by kernel_rfl) ?_
        refine RunsI.cond true 26 (by kernel_rfl) ?_
        refine RunsI.go 1 [.c 27, .c 28, .blk 1, .c 30, .lp 15, .blk 0, .c 31] (by kernel_rfl) ?_
        refine RunsI.region (by kernel_rfl) ?_
        refine RegI.pure 1 [4] [(4, .bool false)] (by kernel_rfl) ?_
        refine RegI.done (by kernel_rfl) ?_
        refine RunsI.ret (.bool false) (by kernel_rfl) (by kernel_rfl) ?_
        exact hk1 w20 (Option.some.inj h).symm (h22.pick [] (by decide))
      · skip
        refine RunsI.fix 25 false hc23 (by kernel_rfl) (by kernel_rfl) ?_
        refine RunsI.cond false 29 (by kernel_rfl) ?_
        refine RunsI.go 1 [.blk 1, .c 30, .lp 15, .blk 0, .c 31] (by kernel_rfl) ?_
        refine RunsI.go 1 [.c 30, .lp 15, .blk 0, .c 31] (by kernel_rfl) ?_
        refine RunsI.region (by kernel_rfl) ?_
        refine RegI.pure 3 [0, 1, 5] [(0, .slice pA0 p0.length pc0), (1, .slice pA1 p1.length pc1), (5, .int .i64 (IntKind.wrap .i64 (t2 + 1)))] (by kernel_rfl) ?_
        refine RegI.done (by kernel_rfl) ?_
        refine RunsI.go 1 [.c 15, .lp 15, .blk 0, .c 31] (by kernel_rfl) ?_
        refine RunsI.only [0, 1, 5] [(0, .slice pA0 p0.length pc0), (1, .slice pA1 p1.length pc1), (5, .int .i64 (IntKind.wrap .i64 (t2 + 1)))] (by kernel_rfl) (by kernel_rfl) ?_
        exact ih (IntKind.wrap .i64 (t2 + 1)) w20 h (h22.pick [0, 1] (by decide))
    · skip
      refine RunsI.fix 14 false hc3 (by kernel_rfl) (by kernel_rfl) ?_
      refine RunsI.cond false 20 (by kernel_rfl) ?_
      refine RunsI.go 1 [.c 31] (by kernel_rfl) ?_
      refine RunsI.only [] [] (by kernel_rfl) (by kernel_rfl) ?_
      exact hk0 w (Option.some.inj h).symm (hH.pick [] (by decide))
def charabancref08_Same_19.f (K : Nat) (p0 : List (Int × Int × Int × Int × Int × Int)) (p1 : List (Int × Int × Int × Int × Int × Int)) : Option Bool := cond ((p0.length : Int) != (p1.length : Int)) (some false) ((charabancref08_Same_19.l0 K p0 p1 K 0).bind (fun x24 => Lp.elim x24 (fun _ => some false) (fun _ => some true)))
set_option maxRecDepth 100000 in
theorem charabancref08_Same_19_ok (K : Nat) (M0 : Nat → Prop) (w0 : World) (pA0 : Option Addr) (pc0 : Nat) (pA1 : Option Addr) (pc1 : Nat) (p0 : List (Int × Int × Int × Int × Int × Int)) (p1 : List (Int × Int × Int × Int × Int × Int)) (ho : ∀ b, M0 b → b < w0.heap.size) (hs0 : Sl (Rp.pair (Rp.int .i64) (Rp.pair (Rp.int .u8) (Rp.pair (Rp.int .u8) (Rp.pair (Rp.int .u16) (Rp.pair (Rp.int .i64) (Rp.int .i64)))))) w0 M0 (.slice pA0 p0.length pc0) p0) (hs1 : Sl (Rp.pair (Rp.int .i64) (Rp.pair (Rp.int .u8) (Rp.pair (Rp.int .u8) (Rp.pair (Rp.int .u16) (Rp.pair (Rp.int .i64) (Rp.int .i64)))))) w0 M0 (.slice pA1 p1.length pc1) p1) {r : Bool} (h : charabancref08_Same_19.f K p0 p1 = some r) :
    Calls Try.prog 19 #[.slice pA0 p0.length pc0, .slice pA1 p1.length pc1] w0 (charabancref08_Same_19.post M0 w0 r) := by
  unfold charabancref08_Same_19.f at h
  have h0 : Holds M0 w0 w0 [] := Holds.start ho
  have h00 := h0.addSl (Rp.pair (Rp.int .i64) (Rp.pair (Rp.int .u8) (Rp.pair (Rp.int .u8) (Rp.pair (Rp.int .u16) (Rp.pair (Rp.int .i64) (Rp.int .i64)))))) (.slice pA0 p0.length pc0) p0 (hs0.mono (fun _ _ hm => hm.elim id (fun hm => absurd hm (by simp [mines, sl]))))
  have h01 := h00.addSl (Rp.pair (Rp.int .i64) (Rp.pair (Rp.int .u8) (Rp.pair (Rp.int .u8) (Rp.pair (Rp.int .u16) (Rp.pair (Rp.int .i64) (Rp.int .i64)))))) (.slice pA1 p1.length pc1) p1 (hs1.mono (fun _ _ hm => hm.elim id (fun hm => absurd hm (by simp [mines, sl]))))
  have h0 : Holds M0 w0 w0 [sl (Rp.pair (Rp.int .i64) (Rp.pair (Rp.int .u8) (Rp.pair (Rp.int .u8) (Rp.pair (Rp.int .u16) (Rp.pair (Rp.int .i64) (Rp.int .i64)))))) (.slice pA0 p0.length pc0) p0, sl (Rp.pair (Rp.int .i64) (Rp.pair (Rp.int .u8) (Rp.pair (Rp.int .u8) (Rp.pair (Rp.int .u16) (Rp.pair (Rp.int .i64) (Rp.int .i64)))))) (.slice pA1 p1.length pc1) p1] := h01
  refine calls_of F19 rfl [.slice pA0 p0.length pc0, .slice pA1 p1.length pc1] (by kernel_rfl) ?_
  refine RunsI.go 1 [.c 1, .c 2] (by kernel_rfl) ?_
  refine RunsI.region (by kernel_rfl) ?_
  refine RegI.pure 1 [0, 1] [(0, .slice pA0 p0.length pc0), (1, .slice pA1 p1.length pc1)] (by kernel_rfl) ?_
  refine RegI.done (by kernel_rfl) ?_
  refine RunsI.go 2 [.c 4, .c 5, .c 10] (by kernel_rfl) ?_
  refine RunsI.region (by kernel_rfl) ?_
  refine RegI.pure 5 [0, 1, 10] [(0, .slice pA0 p0.length pc0), (1, .slice pA1 p1.length pc1), (10, .bool ((p0.length : Int) != (p1.length : Int)))] (by kernel_rfl) ?_
  refine RegI.done (by kernel_rfl) ?_
  rcases of_cond h with ⟨hc1, h⟩ | ⟨hc1, h⟩
  · skip
    refine RunsI.fix 10 true hc1 (by kernel_rfl) (by kernel_rfl) ?_
    refine RunsI.cond true 6 (by kernel_rfl) ?_
    refine RunsI.go 1 [.c 7, .c 8, .c 10] (by kernel_rfl) ?_
    refine RunsI.region (by kernel_rfl) ?_
    refine RegI.pure 1 [4] [(4, .bool false)] (by kernel_rfl) ?_
    refine RegI.done (by kernel_rfl) ?_
    refine RunsI.ret (.bool false) (by kernel_rfl) (by kernel_rfl) ?_
    obtain rfl := Option.some.inj h
    exact ⟨rfl, h0.below⟩
  · skip
    refine RunsI.fix 10 false hc1 (by kernel_rfl) (by kernel_rfl) ?_
    refine RunsI.cond false 9 (by kernel_rfl) ?_
    refine RunsI.go 1 [.c 10] (by kernel_rfl) ?_
    refine RunsI.go 2 [.c 12, .c 13, .c 31] (by kernel_rfl) ?_
    refine RunsI.region (by kernel_rfl) ?_
    refine RegI.pure 1 [0, 1, 5] [(0, .slice pA0 p0.length pc0), (1, .slice pA1 p1.length pc1), (5, .int .i64 0)] (by kernel_rfl) ?_
    refine RegI.done (by kernel_rfl) ?_
    refine RunsI.go 2 [.c 15, .lp 15, .blk 0, .c 31] (by kernel_rfl) ?_
    obtain ⟨x24, hx25, h⟩ := of_bind h
    refine RunsI.only [0, 1, 5] [(0, .slice pA0 p0.length pc0), (1, .slice pA1 p1.length pc1), (5, .int .i64 0)] (by kernel_rfl) (by kernel_rfl) ?_
    refine charabancref08_Same_19.l0_ok K M0 w0 pA0 pc0 pA1 pc1 p0 p1 _ x24 ?_ ?_ K 0 w0 hx25 (h0.pick [0, 1] (by decide))
    · intro w27 hq30 h26
      (try rw [hq30] at h)
      dsimp only [Lp.elim] at h
      refine RunsI.go 1 [.c 32, .c 33] (by kernel_rfl) ?_
      refine RunsI.region (by kernel_rfl) ?_
      refine RegI.pure 1 [4] [(4, .bool true)] (by kernel_rfl) ?_
      refine RegI.done (by kernel_rfl) ?_
      refine RunsI.ret (.bool true) (by kernel_rfl) (by kernel_rfl) ?_
      obtain rfl := Option.some.inj h
      exact ⟨rfl, h26.below⟩
    · intro w29 hq31 h28
      (try rw [hq31] at h)
      dsimp only [Lp.elim] at h
      obtain rfl := Option.some.inj h
      exact ⟨rfl, h28.below⟩
end
end Go.Proofs.Ytmcdkmakjjlcnaa.Dec
