/- Functions of the program as plain Lean functions, each with the proof that the call comes to it; written by wip/eng.py. -/
import Derived.Test.YtbcepghanbkncaaDoorIm2
set_option linter.unusedVariables false
set_option linter.unusedSimpArgs false
set_option maxHeartbeats 4000000
namespace Go.Proofs.YtbcepghanbkncaaDoor.Im
open Go.RowKit Go.Eng
/-! ### charabanc/image.Show (function 16) -/
section
def image_Show_16.post (M0 : Nat → Prop) (w0 : World) (r : ByteArray) : Ending → World → Prop := fun e w => e = .returned (.string r) ∧ Below w0.heap.size w0 w
def image_Show_16.l0 (K : Nat) (p0_0_0 : List Int) (p0_0_1 : Int) (p0_0_2 : Int) (p0_0_3 : List (Int × Int)) (p0_1 : Int) : Nat → (List UInt8) → Int → Option (List UInt8)
 | 0, _, _ => none
 | k + 1, t159, t163 => cond (decide (t163 < (p0_0_0.length : Int))) (cond (cutR t163 (p0_0_0.length : Int) p0_0_0.length) (cond (cutR t163 (IntKind.wrap .i64 (t163 + (if ((cutL p0_0_0 t163 (p0_0_0.length : Int)).length : Int) < 16 then ((cutL p0_0_0 t163 (p0_0_0.length : Int)).length : Int) else 16))) p0_0_0.length) ((image_Digits_13.f K (cutL p0_0_0 t163 (IntKind.wrap .i64 (t163 + (if ((cutL p0_0_0 t163 (p0_0_0.length : Int)).length : Int) < 16 then ((cutL p0_0_0 t163 (p0_0_0.length : Int)).length : Int) else 16))))).bind fun t189 => (strings_Join_31.f K ([(⟨#[114, 111, 109]⟩ : ByteArray), t189] : List ByteArray) (⟨#[32]⟩ : ByteArray)).bind fun t211 => cond (mayCat t211.size (⟨#[10]⟩ : ByteArray).size) (cond (bldR t159.length (t211 ++ (⟨#[10]⟩ : ByteArray)).size) (image_Show_16.l0 K p0_0_0 p0_0_1 p0_0_2 p0_0_3 p0_1 k (t159 ++ (t211 ++ (⟨#[10]⟩ : ByteArray)).data.toList) (IntKind.wrap .i64 (t163 + 16))) none) none) none) none) (some t159)
set_option maxRecDepth 100000 in
theorem image_Show_16.l0_ok (K : Nat) (M0 : Nat → Prop) (w0 : World) (pA0_0_0 : Option Addr) (pc0_0_0 : Nat) (pA0_0_3 : Option Addr) (pc0_0_3 : Nat) (p0_0_0 : List Int) (p0_0_1 : Int) (p0_0_2 : Int) (p0_0_3 : List (Int × Int)) (p0_1 : Int) (b154 : Nat) (b155 : Nat) (b156 : Nat) (b160 : Nat) (b161 : Nat) (b162 : Nat) (b164 : Nat) (R : Ending → World → Prop) (x : (List UInt8)) (hk0 : ∀ (t226 : List UInt8) (A224 : Option Addr) (c225 : Nat) (w1 : World), x = t226 → Holds M0 w0 w1 [box b155 29 [.slice pA0_0_0 p0_0_0.length pc0_0_0, .int .i64 p0_0_1, .int .i64 p0_0_2, .slice pA0_0_3 p0_0_3.length pc0_0_3, .int .u16 p0_1], sl (Rp.int .u8) (.slice pA0_0_0 p0_0_0.length pc0_0_0) p0_0_0, sl (Rp.pair (Rp.int .i64) (Rp.int .u8)) (.slice pA0_0_3 p0_0_3.length pc0_0_3) p0_0_3, bl 68 5 b156 (.slice A224 t226.length c225) A224 c225 t226, box b160 76 [.func (.func 30) #[] #[.pointer (some ⟨b156, 0, none⟩)]], box b161 22 [.slice pA0_0_0 p0_0_0.length pc0_0_0], box b162 3 [.int .i64 16], rng F16 24 b154 [(1, .pointer (some ⟨b155, 0, none⟩)), (3, .pointer (some ⟨b156, 0, none⟩)), (4, .pointer (some ⟨b160, 0, none⟩)), (36, .func (.func 48) #[] #[.pointer (some ⟨b161, 0, none⟩), .pointer (some ⟨b162, 0, none⟩)])] .ready none, dfr b164, gl 1 (tab_1.flatMap en_1), gl 4 (tab_4.flatMap en_4), gl 5 (tab_5.flatMap en_5)] → RunsI F48 [] [] w1 R) :
  ∀ (k : Nat) (t159 : List UInt8) (t163 : Int) (A157 : Option Addr) (c158 : Nat) (w : World), image_Show_16.l0 K p0_0_0 p0_0_1 p0_0_2 p0_0_3 p0_1 k t159 t163 = some x → Holds M0 w0 w [rng F16 24 b154 [(1, .pointer (some ⟨b155, 0, none⟩)), (3, .pointer (some ⟨b156, 0, none⟩)), (4, .pointer (some ⟨b160, 0, none⟩)), (36, .func (.func 48) #[] #[.pointer (some ⟨b161, 0, none⟩), .pointer (some ⟨b162, 0, none⟩)])] .ready none, box b155 29 [.slice pA0_0_0 p0_0_0.length pc0_0_0, .int .i64 p0_0_1, .int .i64 p0_0_2, .slice pA0_0_3 p0_0_3.length pc0_0_3, .int .u16 p0_1], sl (Rp.int .u8) (.slice pA0_0_0 p0_0_0.length pc0_0_0) p0_0_0, sl (Rp.pair (Rp.int .i64) (Rp.int .u8)) (.slice pA0_0_3 p0_0_3.length pc0_0_3) p0_0_3, bl 68 5 b156 (.slice A157 t159.length c158) A157 c158 t159, box b160 76 [.func (.func 30) #[] #[.pointer (some ⟨b156, 0, none⟩)]], box b161 22 [.slice pA0_0_0 p0_0_0.length pc0_0_0], box b162 3 [.int .i64 16], dfr b164, gl 1 (tab_1.flatMap en_1), gl 4 (tab_4.flatMap en_4), gl 5 (tab_5.flatMap en_5)] → RunsI F48 [.c 4, .lp 4, .blk 0] [(0, .func (.yield b154) #[] #[]), (1, .pointer (some ⟨b161, 0, none⟩)), (2, .pointer (some ⟨b162, 0, none⟩)), (4, .int .i64 t163)] w R := by
 intro k
 induction k with
 | zero => intro t159 t163 A157 c158 w h hH; exact absurd h (by simp [image_Show_16.l0])
 | succ k ih =>
  intro t159 t163 A157 c158 w h hH
  rw [image_Show_16.l0.eq_2] at h
  refine RunsI.g 1 [.c 5, .c 10, .lp 4, .blk 0] ?_
  refine RunsI.g 1 [.c 6, .c 7, .c 10, .lp 4, .blk 0] ?_
  refine RunsI.r ?_
  refine RegI.p 1 [(0, .func (.yield b154) #[] #[]), (1, .pointer (some ⟨b161, 0, none⟩)), (2, .pointer (some ⟨b162, 0, none⟩)), (4, .int .i64 t163), (6, .int .i64 t163)] ?_
  refine RegI.o (OpE.loadBox 7 6 22 b161 0 (.slice pA0_0_0 p0_0_0.length pc0_0_0) hH (by kernel_rfl) (by kernel_rfl) rfl (by kernel_rfl) ?_)
  refine RegI.p 2 [(0, .func (.yield b154) #[] #[]), (1, .pointer (some ⟨b161, 0, none⟩)), (2, .pointer (some ⟨b162, 0, none⟩)), (4, .int .i64 t163), (9, .bool (decide (t163 < (p0_0_0.length : Int))))] ?_
  refine RegI.d ?_
  rcases of_cond h with ⟨hc165, h⟩ | ⟨hc165, h⟩
  ·skip
   refine RunsI.f 9 true hc165 ?_
   refine RunsI.b true 8 ?_
   refine RunsI.g 1 [.c 10, .lp 4, .blk 0] ?_
   refine RunsI.g 3 [.c 13, .c 14, .blk 1, .c 19, .lp 4, .blk 0] ?_
   refine RunsI.any 7 (by kernel_rfl) (by kernel_rfl) (by kernel_rfl) (Kp ([] : List Nat) (World.drew w)) ?_
   have h167 := hH.drew
   generalize World.drew w = w166 at h167 ⊢
   have hS168 := Kp.refl ([] : List Nat) w166
   refine AnyE.loadBox 0 13 7 3 b162 0 (.int .i64 16) [] h167 rfl (by kernel_rfl) hS168 rfl rfl (by kernel_rfl) (by kernel_rfl) ?_
   refine AnyE.loadBox 1 14 6 22 b161 0 (.slice pA0_0_0 p0_0_0.length pc0_0_0) [] h167 rfl (by kernel_rfl) hS168 rfl rfl (by kernel_rfl) (by kernel_rfl) ?_
   refine AnyE.pure 2 15 (.int .i64 t163) (by kernel_rfl) hS168 (fun _ => by kernel_rfl) ?_
   obtain ⟨hc170, h⟩ := of_cond0 h
   refine AnyE.cutSl 3 16 2 22 (some t163) none h167 (by kernel_rfl) hS168 rfl (by kernel_rfl) (by kernel_rfl) hc170 ?_
   intro A171 c172 h173
   refine AnyE.pure 4 17 (.int .i64 ((cutL p0_0_0 t163 (p0_0_0.length : Int)).length : Int)) (by kernel_rfl) hS168 (fun _ => by kernel_rfl) ?_
   refine AnyE.pure 5 18 (.int .i64 (if ((cutL p0_0_0 t163 (p0_0_0.length : Int)).length : Int) < 16 then ((cutL p0_0_0 t163 (p0_0_0.length : Int)).length : Int) else 16)) (by kernel_rfl) hS168 (fun _ => by kernel_rfl) ?_
   refine AnyE.pure 6 5 (.int .i64 (if ((cutL p0_0_0 t163 (p0_0_0.length : Int)).length : Int) < 16 then ((cutL p0_0_0 t163 (p0_0_0.length : Int)).length : Int) else 16)) (by kernel_rfl) hS168 (fun _ => by kernel_rfl) ?_
   refine AnyE.done (by kernel_rfl) (fun w174 hu175 => ?_)
   have h176 : Holds M0 w0 w174 [rng F16 24 b154 [(1, .pointer (some ⟨b155, 0, none⟩)), (3, .pointer (some ⟨b156, 0, none⟩)), (4, .pointer (some ⟨b160, 0, none⟩)), (36, .func (.func 48) #[] #[.pointer (some ⟨b161, 0, none⟩), .pointer (some ⟨b162, 0, none⟩)])] .ready none, box b155 29 [.slice pA0_0_0 p0_0_0.length pc0_0_0, .int .i64 p0_0_1, .int .i64 p0_0_2, .slice pA0_0_3 p0_0_3.length pc0_0_3, .int .u16 p0_1], sl (Rp.int .u8) (.slice pA0_0_0 p0_0_0.length pc0_0_0) p0_0_0, sl (Rp.pair (Rp.int .i64) (Rp.int .u8)) (.slice pA0_0_3 p0_0_3.length pc0_0_3) p0_0_3, bl 68 5 b156 (.slice A157 t159.length c158) A157 c158 t159, box b160 76 [.func (.func 30) #[] #[.pointer (some ⟨b156, 0, none⟩)]], box b161 22 [.slice pA0_0_0 p0_0_0.length pc0_0_0], box b162 3 [.int .i64 16], dfr b164, gl 1 (tab_1.flatMap en_1), gl 4 (tab_4.flatMap en_4), gl 5 (tab_5.flatMap en_5), sl (Rp.int .u8) (.slice A171 ((cutL p0_0_0 t163 (p0_0_0.length : Int)).length) c172) (cutL p0_0_0 t163 (p0_0_0.length : Int))] := h173.call hu175
   refine RunsI.l [0, 1, 2, 4, 5] [(0, .func (.yield b154) #[] #[]), (1, .pointer (some ⟨b161, 0, none⟩)), (2, .pointer (some ⟨b162, 0, none⟩)), (4, .int .i64 t163), (5, .int .i64 (if ((cutL p0_0_0 t163 (p0_0_0.length : Int)).length : Int) < 16 then ((cutL p0_0_0 t163 (p0_0_0.length : Int)).length : Int) else 16))] ?_
   refine RunsI.g 1 [.c 15, .c 16, .blk 1, .c 19, .lp 4, .blk 0] ?_
   refine RunsI.r ?_
   refine RegI.p 1 [(0, .func (.yield b154) #[] #[]), (1, .pointer (some ⟨b161, 0, none⟩)), (2, .pointer (some ⟨b162, 0, none⟩)), (4, .int .i64 t163), (5, .int .i64 (if ((cutL p0_0_0 t163 (p0_0_0.length : Int)).length : Int) < 16 then ((cutL p0_0_0 t163 (p0_0_0.length : Int)).length : Int) else 16)), (19, .func (.yield b154) #[] #[])] ?_
   refine RegI.o (OpE.loadBox 20 6 22 b161 0 (.slice pA0_0_0 p0_0_0.length pc0_0_0) h176 (by kernel_rfl) (by kernel_rfl) rfl (by kernel_rfl) ?_)
   refine RegI.p 7 [(0, .func (.yield b154) #[] #[]), (1, .pointer (some ⟨b161, 0, none⟩)), (2, .pointer (some ⟨b162, 0, none⟩)), (4, .int .i64 t163), (19, .func (.yield b154) #[] #[]), (20, .slice pA0_0_0 p0_0_0.length pc0_0_0), (21, .int .i64 t163), (24, .int .i64 (IntKind.wrap .i64 (t163 + (if ((cutL p0_0_0 t163 (p0_0_0.length : Int)).length : Int) < 16 then ((cutL p0_0_0 t163 (p0_0_0.length : Int)).length : Int) else 16)))), (27, .int .i64 (IntKind.wrap .i64 (t163 + (if ((cutL p0_0_0 t163 (p0_0_0.length : Int)).length : Int) < 16 then ((cutL p0_0_0 t163 (p0_0_0.length : Int)).length : Int) else 16))))] ?_
   obtain ⟨hc177, h⟩ := of_cond0 h
   refine RegI.o (OpE.cutSlM 28 2 22 t163 (IntKind.wrap .i64 (t163 + (if ((cutL p0_0_0 t163 (p0_0_0.length : Int)).length : Int) < 16 then ((cutL p0_0_0 t163 (p0_0_0.length : Int)).length : Int) else 16))) h176 (by kernel_rfl) rfl (by kernel_rfl) (by kernel_rfl) hc177 ?_)
   intro A178 c179 h180
   refine RegI.yield 29 b154 24 0 [.slice A178 ((cutL p0_0_0 t163 (IntKind.wrap .i64 (t163 + (if ((cutL p0_0_0 t163 (p0_0_0.length : Int)).length : Int) < 16 then ((cutL p0_0_0 t163 (p0_0_0.length : Int)).length : Int) else 16)))).length) c179] [0, 1, 2, 4] [(0, .func (.yield b154) #[] #[]), (1, .pointer (some ⟨b161, 0, none⟩)), (2, .pointer (some ⟨b162, 0, none⟩)), (4, .int .i64 t163)] h180 (by kernel_rfl) (by kernel_rfl) (by kernel_rfl) (by kernel_rfl) rfl (by kernel_rfl) (by kernel_rfl) (by kernel_rfl) [.c 25, .bg, .c 26] (by kernel_rfl) [(37, .slice A178 ((cutL p0_0_0 t163 (IntKind.wrap .i64 (t163 + (if ((cutL p0_0_0 t163 (p0_0_0.length : Int)).length : Int) < 16 then ((cutL p0_0_0 t163 (p0_0_0.length : Int)).length : Int) else 16)))).length) c179), (1, .pointer (some ⟨b155, 0, none⟩)), (3, .pointer (some ⟨b156, 0, none⟩)), (4, .pointer (some ⟨b160, 0, none⟩)), (36, .func (.func 48) #[] #[.pointer (some ⟨b161, 0, none⟩), .pointer (some ⟨b162, 0, none⟩)])] (by kernel_rfl) ?_
   refine RunsI.l [4, 37] [(4, .pointer (some ⟨b160, 0, none⟩)), (37, .slice A178 ((cutL p0_0_0 t163 (IntKind.wrap .i64 (t163 + (if ((cutL p0_0_0 t163 (p0_0_0.length : Int)).length : Int) < 16 then ((cutL p0_0_0 t163 (p0_0_0.length : Int)).length : Int) else 16)))).length) c179)] ?_
   refine RunsI.r ?_
   refine RegI.p 1 [(4, .pointer (some ⟨b160, 0, none⟩)), (5, .slice A178 ((cutL p0_0_0 t163 (IntKind.wrap .i64 (t163 + (if ((cutL p0_0_0 t163 (p0_0_0.length : Int)).length : Int) < 16 then ((cutL p0_0_0 t163 (p0_0_0.length : Int)).length : Int) else 16)))).length) c179)] ?_
   refine RegI.d ?_
   refine RunsI.begin 0 h180 rfl rfl ?_
   intro w181 h182 hk183
   refine RunsI.g 1 [.c 27, .blk 1] ?_
   refine RunsI.any 5 (by kernel_rfl) (by kernel_rfl) (by kernel_rfl) (Kp ([] : List Nat) (World.drew w181)) ?_
   have h185 := h182.drew
   generalize World.drew w181 = w184 at h185 ⊢
   have hS186 := Kp.refl ([] : List Nat) w184
   refine AnyE.loadBox 0 38 5 76 b160 0 (.func (.func 30) #[] #[.pointer (some ⟨b156, 0, none⟩)]) [] h185 rfl (by kernel_rfl) hS186 rfl rfl (by kernel_rfl) (by kernel_rfl) ?_
   refine AnyE.pure 1 39 (.slice A178 ((cutL p0_0_0 t163 (IntKind.wrap .i64 (t163 + (if ((cutL p0_0_0 t163 (p0_0_0.length : Int)).length : Int) < 16 then ((cutL p0_0_0 t163 (p0_0_0.length : Int)).length : Int) else 16)))).length) c179) (by kernel_rfl) hS186 (fun _ => by kernel_rfl) ?_
   obtain ⟨t189, hg188, h⟩ := of_bind h
   refine AnyE.call 2 40 (.string t189) 13 #[.slice A178 ((cutL p0_0_0 t163 (IntKind.wrap .i64 (t163 + (if ((cutL p0_0_0 t163 (p0_0_0.length : Int)).length : Int) < 16 then ((cutL p0_0_0 t163 (p0_0_0.length : Int)).length : Int) else 16)))).length) c179] (by kernel_rfl) hS186 (fun _ => by kernel_rfl) (fun w hk => image_Digits_13_ok K (fun _ => False) w A178 c179 (cutL p0_0_0 t163 (IntKind.wrap .i64 (t163 + (if ((cutL p0_0_0 t163 (p0_0_0.length : Int)).length : Int) < 16 then ((cutL p0_0_0 t163 (p0_0_0.length : Int)).length : Int) else 16)))) (fun _ hf => hf.elim) (Sl.mono (h185.atI [] rfl hk 13 rfl rfl) (fun _ _ hf => hf.elim)) ⟨(h185.atI [] rfl hk 9 rfl rfl).1, fun hf => hf.elim, (h185.atI [] rfl hk 9 rfl rfl).2.2⟩ ⟨(h185.atI [] rfl hk 10 rfl rfl).1, fun hf => hf.elim, (h185.atI [] rfl hk 10 rfl rfl).2.2⟩ ⟨(h185.atI [] rfl hk 11 rfl rfl).1, fun hf => hf.elim, (h185.atI [] rfl hk 11 rfl rfl).2.2⟩ hg188) ?_
   refine AnyE.one 3 (by kernel_rfl) (fun w190 hu191 => ?_)
   have h192 := h185.call hu191
   have hS193 := hS186.up hu191
   refine OpE.lit 41 9 [.string (⟨#[114, 111, 109]⟩ : ByteArray), .string t189] 2 h192 (by kernel_rfl) (by kernel_rfl) ?_
   intro w194 b195 h196 hb197 hn198
   have hn199 := Nat.le_trans hS193.1 hn198
   have hS200 := hS193.up hb197
   refine ⟨hS200, ?_⟩
   refine AnyE.last 4 (by kernel_rfl) (by kernel_rfl) (fun w201 hu202 => ?_)
   have h203 := h196.call hu202
   have hS204 := hS200.up hu202
   refine OpE.enter 42 (by kernel_rfl) F30 30 rfl [.slice (some ⟨b195, 0, none⟩) (([(⟨#[114, 111, 109]⟩ : ByteArray), t189] : List ByteArray).length) 2, .pointer (some ⟨b156, 0, none⟩)] (by kernel_rfl) (by kernel_rfl) ?_
   refine RunsI.r ?_
   refine RegI.p 1 [(1, .pointer (some ⟨b156, 0, none⟩)), (3, .slice (some ⟨b195, 0, none⟩) (([(⟨#[114, 111, 109]⟩ : ByteArray), t189] : List ByteArray).length) 2)] ?_
   obtain ⟨t211, hg210, h⟩ := of_bind h
   have h205 := h203.boxOwn 14 rfl Rp.str ([(⟨#[114, 111, 109]⟩ : ByteArray), t189] : List ByteArray) (cells_str _ _ _) (Nat.le_of_ble_eq_true (by kernel_rfl))
   have h206 := h205.release 14 rfl
   refine RegI.o (OpE.call 4 (by kernel_rfl) 31 #[.slice (some ⟨b195, 0, none⟩) (([(⟨#[114, 111, 109]⟩ : ByteArray), t189] : List ByteArray).length) 2, .string (⟨#[32]⟩ : ByteArray)] (by kernel_rfl) ((strings_Join_31_ok K _ w201  (some ⟨b195, 0, none⟩) 2 ([(⟨#[114, 111, 109]⟩ : ByteArray), t189] : List ByteArray) (⟨#[32]⟩ : ByteArray) h206.old' (h206.get 14 rfl) hg210).mono ?_))
   rintro _ w207 ⟨rfl, hb208⟩
   refine ⟨_, rfl, ?_⟩
   have h209 := h206.call hb208
   obtain ⟨hc212, h⟩ := of_cond0 h
   refine RegI.o (OpE.run 5 (by kernel_rfl) (run_cat (a := t211) (b := (⟨#[10]⟩ : ByteArray)) (by kernel_rfl) hc212) ?_)
   obtain ⟨hc213, h⟩ := of_cond0 h
   refine RegI.o (OpE.call 6 (by kernel_rfl) 27 #[.pointer (some ⟨b156, 0, none⟩), .string (t211 ++ (⟨#[10]⟩ : ByteArray))] (by kernel_rfl) ((strings_Builder_WriteString_27_ok 4 (t211 ++ (⟨#[10]⟩ : ByteArray)) h209 rfl hc213).mono ?_))
   rintro _ w214 ⟨rfl, A215, c216, h217⟩
   refine ⟨_, rfl, ?_⟩
   refine RegI.d ?_
   refine RunsI.t (.tuple #[]) ?_
   refine cont_mk ?_
   refine AnyE.done (by kernel_rfl) (fun w218 hu219 => ?_)
   have h220 : Holds M0 w0 w218 [rng F16 24 b154 [(1, .pointer (some ⟨b155, 0, none⟩)), (3, .pointer (some ⟨b156, 0, none⟩)), (4, .pointer (some ⟨b160, 0, none⟩)), (36, .func (.func 48) #[] #[.pointer (some ⟨b161, 0, none⟩), .pointer (some ⟨b162, 0, none⟩)])] .busy none, box b155 29 [.slice pA0_0_0 p0_0_0.length pc0_0_0, .int .i64 p0_0_1, .int .i64 p0_0_2, .slice pA0_0_3 p0_0_3.length pc0_0_3, .int .u16 p0_1], sl (Rp.int .u8) (.slice pA0_0_0 p0_0_0.length pc0_0_0) p0_0_0, sl (Rp.pair (Rp.int .i64) (Rp.int .u8)) (.slice pA0_0_3 p0_0_3.length pc0_0_3) p0_0_3, bl 68 5 b156 (.slice A215 (t159 ++ (t211 ++ (⟨#[10]⟩ : ByteArray)).data.toList).length c216) A215 c216 (t159 ++ (t211 ++ (⟨#[10]⟩ : ByteArray)).data.toList), box b160 76 [.func (.func 30) #[] #[.pointer (some ⟨b156, 0, none⟩)]], box b161 22 [.slice pA0_0_0 p0_0_0.length pc0_0_0], box b162 3 [.int .i64 16], dfr b164, gl 1 (tab_1.flatMap en_1), gl 4 (tab_4.flatMap en_4), gl 5 (tab_5.flatMap en_5), sl (Rp.int .u8) (.slice A171 ((cutL p0_0_0 t163 (p0_0_0.length : Int)).length) c172) (cutL p0_0_0 t163 (p0_0_0.length : Int)), sl (Rp.int .u8) (.slice A178 ((cutL p0_0_0 t163 (IntKind.wrap .i64 (t163 + (if ((cutL p0_0_0 t163 (p0_0_0.length : Int)).length : Int) < 16 then ((cutL p0_0_0 t163 (p0_0_0.length : Int)).length : Int) else 16)))).length) c179) (cutL p0_0_0 t163 (IntKind.wrap .i64 (t163 + (if ((cutL p0_0_0 t163 (p0_0_0.length : Int)).length : Int) < 16 then ((cutL p0_0_0 t163 (p0_0_0.length : Int)).length : Int) else 16)))), sl Rp.str (.slice (some ⟨b195, 0, none⟩) (([(⟨#[114, 111, 109]⟩ : ByteArray), t189] : List ByteArray).length) 2) ([(⟨#[114, 111, 109]⟩ : ByteArray), t189] : List ByteArray)] := h217.call hu219
   refine RunsI.l [] [] ?_
   refine RunsI.g 1 [] ?_
   refine RunsI.roundEnd 0 h220 rfl rfl ?_
   intro w221 h222 hk223
   refine cont_mk ?_
   refine RegI.p 1 [(0, .func (.yield b154) #[] #[]), (1, .pointer (some ⟨b161, 0, none⟩)), (2, .pointer (some ⟨b162, 0, none⟩)), (4, .int .i64 t163), (30, .bool false)] ?_
   refine RegI.d ?_
   refine RunsI.b false 18 ?_
   refine RunsI.g 2 [.c 19, .lp 4, .blk 0] ?_
   refine RunsI.r ?_
   refine RegI.p 1 [(0, .func (.yield b154) #[] #[]), (1, .pointer (some ⟨b161, 0, none⟩)), (2, .pointer (some ⟨b162, 0, none⟩)), (10, .int .i64 t163)] ?_
   refine RegI.o (OpE.loadBox 11 7 3 b162 0 (.int .i64 16) h222 (by kernel_rfl) (by kernel_rfl) rfl (by kernel_rfl) ?_)
   refine RegI.p 2 [(0, .func (.yield b154) #[] #[]), (1, .pointer (some ⟨b161, 0, none⟩)), (2, .pointer (some ⟨b162, 0, none⟩)), (4, .int .i64 (IntKind.wrap .i64 (t163 + 16)))] ?_
   refine RegI.d ?_
   refine RunsI.g 1 [.c 4, .lp 4, .blk 0] ?_
   refine RunsI.l [0, 1, 2, 4] [(0, .func (.yield b154) #[] #[]), (1, .pointer (some ⟨b161, 0, none⟩)), (2, .pointer (some ⟨b162, 0, none⟩)), (4, .int .i64 (IntKind.wrap .i64 (t163 + 16)))] ?_
   exact ih (t159 ++ (t211 ++ (⟨#[10]⟩ : ByteArray)).data.toList) (IntKind.wrap .i64 (t163 + 16)) A215 c216 w221 h (h222.pick [0, 1, 2, 3, 4, 5, 6, 7, 8, 9, 10, 11] (by decide))
  ·skip
   refine RunsI.f 9 false hc165 ?_
   refine RunsI.b false 9 ?_
   refine RunsI.g 1 [] ?_
   refine RunsI.l [] [] ?_
   exact hk0 t159 A157 c158 w (Option.some.inj h).symm (hH.pick [1, 2, 3, 4, 5, 6, 7, 0, 8, 9, 10, 11] (by decide))
def image_Show_16.l1 (K : Nat) (p0_0_0 : List Int) (p0_0_1 : Int) (p0_0_2 : Int) (p0_0_3 : List (Int × Int)) (p0_1 : Int) : Nat → (List UInt8) → Int → Option (List UInt8)
 | 0, _, _ => none
 | k + 1, t240, t242 => cond (decide (t242 < (p0_0_3.length : Int))) (cond (inR t242 p0_0_3.length) ((image_hex_28.f K ((rdD p0_0_3 t242).1) 5).bind fun t264 => (image_hex_28.f K (IntKind.wrap .i64 ((rdD p0_0_3 t242).2)) 2).bind fun t266 => (strings_Join_31.f K ([(⟨#[114, 97, 109]⟩ : ByteArray), t264, t266] : List ByteArray) (⟨#[32]⟩ : ByteArray)).bind fun t288 => cond (mayCat t288.size (⟨#[10]⟩ : ByteArray).size) (cond (bldR t240.length (t288 ++ (⟨#[10]⟩ : ByteArray)).size) (image_Show_16.l1 K p0_0_0 p0_0_1 p0_0_2 p0_0_3 p0_1 k (t240 ++ (t288 ++ (⟨#[10]⟩ : ByteArray)).data.toList) (IntKind.wrap .i64 (t242 + 1))) none) none) none) (some t240)
set_option maxRecDepth 100000 in
theorem image_Show_16.l1_ok (K : Nat) (M0 : Nat → Prop) (w0 : World) (pA0_0_0 : Option Addr) (pc0_0_0 : Nat) (pA0_0_3 : Option Addr) (pc0_0_3 : Nat) (p0_0_0 : List Int) (p0_0_1 : Int) (p0_0_2 : Int) (p0_0_3 : List (Int × Int)) (p0_1 : Int) (b237 : Nat) (b241 : Nat) (b243 : Nat) (R : Ending → World → Prop) (x : (List UInt8)) (hk0 : ∀ (t300 : List UInt8) (A298 : Option Addr) (c299 : Nat) (w1 : World), x = t300 → Holds M0 w0 w1 [bl 68 5 b237 (.slice A298 t300.length c299) A298 c299 t300, dfr b243, gl 1 (tab_1.flatMap en_1), gl 4 (tab_4.flatMap en_4), gl 5 (tab_5.flatMap en_5)] → RunsI (F16.df b243) [.c 45] [(3, .pointer (some ⟨b237, 0, none⟩))] w1 R) :
  ∀ (k : Nat) (t240 : List UInt8) (t242 : Int) (A238 : Option Addr) (c239 : Nat) (w : World), image_Show_16.l1 K p0_0_0 p0_0_1 p0_0_2 p0_0_3 p0_1 k t240 t242 = some x → Holds M0 w0 w [bl 68 5 b237 (.slice A238 t240.length c239) A238 c239 t240, box b241 76 [.func (.func 30) #[] #[.pointer (some ⟨b237, 0, none⟩)]], sl (Rp.pair (Rp.int .i64) (Rp.int .u8)) (.slice pA0_0_3 p0_0_3.length pc0_0_3) p0_0_3, dfr b243, gl 1 (tab_1.flatMap en_1), gl 4 (tab_4.flatMap en_4), gl 5 (tab_5.flatMap en_5)] → RunsI (F16.df b243) [.c 33, .lp 33, .blk 2, .c 45] [(3, .pointer (some ⟨b237, 0, none⟩)), (4, .pointer (some ⟨b241, 0, none⟩)), (45, .slice pA0_0_3 p0_0_3.length pc0_0_3), (46, .int .i64 (p0_0_3.length : Int)), (47, .int .i64 t242)] w R := by
 intro k
 induction k with
 | zero => intro t240 t242 A238 c239 w h hH; exact absurd h (by simp [image_Show_16.l1])
 | succ k ih =>
  intro t240 t242 A238 c239 w h hH
  rw [image_Show_16.l1.eq_2] at h
  refine RunsI.g 1 [.c 34, .c 35, .lp 33, .blk 2, .c 45] ?_
  refine RunsI.r ?_
  refine RegI.p 1 [(3, .pointer (some ⟨b237, 0, none⟩)), (4, .pointer (some ⟨b241, 0, none⟩)), (45, .slice pA0_0_3 p0_0_3.length pc0_0_3), (46, .int .i64 (p0_0_3.length : Int)), (47, .int .i64 t242), (48, .bool (decide (t242 < (p0_0_3.length : Int))))] ?_
  refine RegI.d ?_
  refine RunsI.g 1 [.c 36, .c 39, .lp 33, .blk 2, .c 45] ?_
  rcases of_cond h with ⟨hc244, h⟩ | ⟨hc244, h⟩
  ·skip
   refine RunsI.f 48 true hc244 ?_
   refine RunsI.b true 37 ?_
   refine RunsI.g 1 [.c 39, .lp 33, .blk 2, .c 45] ?_
   refine RunsI.g 3 [.c 42, .c 43, .blk 3, .c 44, .lp 33, .blk 2, .c 45] ?_
   refine RunsI.r ?_
   obtain ⟨hc245, h⟩ := of_cond0 h
   refine RegI.o (OpE.idxSl 49 2 24 t242 hH (by kernel_rfl) rfl (by kernel_rfl) (by kernel_rfl) hc245 ?_)
   intro b246 o247 cs248 hk249 h250
   obtain ⟨_, _, rfl, rfl, rfl⟩ := hk249
   refine RegI.o (OpE.loadCel 50 7 64 b246 o247 0 (.agg #[.int .i64 ((rdD p0_0_3 t242).1), .int .u8 ((rdD p0_0_3 t242).2)]) h250 (by kernel_rfl) (by kernel_rfl) rfl (by kernel_rfl) ?_)
   refine RegI.o (OpE.box 7 64 [.int .i64 0, .int .u8 0] h250 (by kernel_rfl) (by kernel_rfl) ?_)
   intro w251 b252 h253 hb254 hn255
   refine RegI.o (OpE.storeBox 8 64 b252 0 (.agg #[.int .i64 ((rdD p0_0_3 t242).1), .int .u8 ((rdD p0_0_3 t242).2)]) [.int .i64 ((rdD p0_0_3 t242).1), .int .u8 ((rdD p0_0_3 t242).2)] h253 (by kernel_rfl) (by kernel_rfl) rfl (by kernel_rfl) (by kernel_rfl) (by kernel_rfl) ?_)
   intro w256 h257 hk258
   refine RegI.d ?_
   refine RunsI.any 10 (by kernel_rfl) (by kernel_rfl) (by kernel_rfl) (Kp ([] : List Nat) (World.drew w256)) ?_
   have h260 := h257.drew
   generalize World.drew w256 = w259 at h260 ⊢
   have hS261 := Kp.refl ([] : List Nat) w259
   refine AnyE.loadBox 0 51 1 76 b241 0 (.func (.func 30) #[] #[.pointer (some ⟨b237, 0, none⟩)]) [] h260 rfl (by kernel_rfl) hS261 rfl rfl (by kernel_rfl) (by kernel_rfl) ?_
   refine AnyE.pure 1 52 (.pointer (some ⟨b252, 0, none⟩)) (by kernel_rfl) hS261 (fun _ => by kernel_rfl) ?_
   refine AnyE.loadBox 2 53 8 3 b252 0 (.int .i64 ((rdD p0_0_3 t242).1)) [] h260 rfl (by kernel_rfl) hS261 rfl rfl (by kernel_rfl) (by kernel_rfl) ?_
   obtain ⟨t264, hg263, h⟩ := of_bind h
   refine AnyE.call 3 54 (.string t264) 28 #[.int .i64 ((rdD p0_0_3 t242).1), .int .i64 5] (by kernel_rfl) hS261 (fun _ => by kernel_rfl) (fun w hk => image_hex_28_ok K (fun _ => False) w ((rdD p0_0_3 t242).1) 5 (fun _ hf => hf.elim) ⟨(h260.atI [] rfl hk 4 rfl rfl).1, fun hf => hf.elim, (h260.atI [] rfl hk 4 rfl rfl).2.2⟩ ⟨(h260.atI [] rfl hk 5 rfl rfl).1, fun hf => hf.elim, (h260.atI [] rfl hk 5 rfl rfl).2.2⟩ ⟨(h260.atI [] rfl hk 6 rfl rfl).1, fun hf => hf.elim, (h260.atI [] rfl hk 6 rfl rfl).2.2⟩ hg263) ?_
   refine AnyE.pure 4 55 (.pointer (some ⟨b252, 1, none⟩)) (by kernel_rfl) hS261 (fun _ => by kernel_rfl) ?_
   refine AnyE.loadBox 5 56 8 5 b252 1 (.int .u8 ((rdD p0_0_3 t242).2)) [] h260 rfl (by kernel_rfl) hS261 rfl rfl (by kernel_rfl) (by kernel_rfl) ?_
   refine AnyE.pure 6 57 (.int .i64 (IntKind.wrap .i64 ((rdD p0_0_3 t242).2))) (by kernel_rfl) hS261 (fun _ => by kernel_rfl) ?_
   obtain ⟨t266, hg265, h⟩ := of_bind h
   refine AnyE.call 7 58 (.string t266) 28 #[.int .i64 (IntKind.wrap .i64 ((rdD p0_0_3 t242).2)), .int .i64 2] (by kernel_rfl) hS261 (fun _ => by kernel_rfl) (fun w hk => image_hex_28_ok K (fun _ => False) w (IntKind.wrap .i64 ((rdD p0_0_3 t242).2)) 2 (fun _ hf => hf.elim) ⟨(h260.atI [] rfl hk 4 rfl rfl).1, fun hf => hf.elim, (h260.atI [] rfl hk 4 rfl rfl).2.2⟩ ⟨(h260.atI [] rfl hk 5 rfl rfl).1, fun hf => hf.elim, (h260.atI [] rfl hk 5 rfl rfl).2.2⟩ ⟨(h260.atI [] rfl hk 6 rfl rfl).1, fun hf => hf.elim, (h260.atI [] rfl hk 6 rfl rfl).2.2⟩ hg265) ?_
   refine AnyE.one 8 (by kernel_rfl) (fun w267 hu268 => ?_)
   have h269 := h260.call hu268
   have hS270 := hS261.up hu268
   refine OpE.lit 59 9 [.string (⟨#[114, 97, 109]⟩ : ByteArray), .string t264, .string t266] 3 h269 (by kernel_rfl) (by kernel_rfl) ?_
   intro w271 b272 h273 hb274 hn275
   have hn276 := Nat.le_trans hS270.1 hn275
   have hS277 := hS270.up hb274
   refine ⟨hS277, ?_⟩
   refine AnyE.last 9 (by kernel_rfl) (by kernel_rfl) (fun w278 hu279 => ?_)
   have h280 := h273.call hu279
   have hS281 := hS277.up hu279
   refine OpE.enter 60 (by kernel_rfl) F30 30 rfl [.slice (some ⟨b272, 0, none⟩) (([(⟨#[114, 97, 109]⟩ : ByteArray), t264, t266] : List ByteArray).length) 3, .pointer (some ⟨b237, 0, none⟩)] (by kernel_rfl) (by kernel_rfl) ?_
   refine RunsI.r ?_
   refine RegI.p 1 [(1, .pointer (some ⟨b237, 0, none⟩)), (3, .slice (some ⟨b272, 0, none⟩) (([(⟨#[114, 97, 109]⟩ : ByteArray), t264, t266] : List ByteArray).length) 3)] ?_
   obtain ⟨t288, hg287, h⟩ := of_bind h
   have h282 := h280.boxOwn 9 rfl Rp.str ([(⟨#[114, 97, 109]⟩ : ByteArray), t264, t266] : List ByteArray) (cells_str _ _ _) (Nat.le_of_ble_eq_true (by kernel_rfl))
   have h283 := h282.release 9 rfl
   refine RegI.o (OpE.call 4 (by kernel_rfl) 31 #[.slice (some ⟨b272, 0, none⟩) (([(⟨#[114, 97, 109]⟩ : ByteArray), t264, t266] : List ByteArray).length) 3, .string (⟨#[32]⟩ : ByteArray)] (by kernel_rfl) ((strings_Join_31_ok K _ w278  (some ⟨b272, 0, none⟩) 3 ([(⟨#[114, 97, 109]⟩ : ByteArray), t264, t266] : List ByteArray) (⟨#[32]⟩ : ByteArray) h283.old' (h283.get 9 rfl) hg287).mono ?_))
   rintro _ w284 ⟨rfl, hb285⟩
   refine ⟨_, rfl, ?_⟩
   have h286 := h283.call hb285
   obtain ⟨hc289, h⟩ := of_cond0 h
   refine RegI.o (OpE.run 5 (by kernel_rfl) (run_cat (a := t288) (b := (⟨#[10]⟩ : ByteArray)) (by kernel_rfl) hc289) ?_)
   obtain ⟨hc290, h⟩ := of_cond0 h
   refine RegI.o (OpE.call 6 (by kernel_rfl) 27 #[.pointer (some ⟨b237, 0, none⟩), .string (t288 ++ (⟨#[10]⟩ : ByteArray))] (by kernel_rfl) ((strings_Builder_WriteString_27_ok 0 (t288 ++ (⟨#[10]⟩ : ByteArray)) h286 rfl hc290).mono ?_))
   rintro _ w291 ⟨rfl, A292, c293, h294⟩
   refine ⟨_, rfl, ?_⟩
   refine RegI.d ?_
   refine RunsI.t (.tuple #[]) ?_
   refine cont_mk ?_
   refine AnyE.done (by kernel_rfl) (fun w295 hu296 => ?_)
   have h297 : Holds M0 w0 w295 [bl 68 5 b237 (.slice A292 (t240 ++ (t288 ++ (⟨#[10]⟩ : ByteArray)).data.toList).length c293) A292 c293 (t240 ++ (t288 ++ (⟨#[10]⟩ : ByteArray)).data.toList), box b241 76 [.func (.func 30) #[] #[.pointer (some ⟨b237, 0, none⟩)]], sl (Rp.pair (Rp.int .i64) (Rp.int .u8)) (.slice pA0_0_3 p0_0_3.length pc0_0_3) p0_0_3, dfr b243, gl 1 (tab_1.flatMap en_1), gl 4 (tab_4.flatMap en_4), gl 5 (tab_5.flatMap en_5), cel b246 o247 [.int .i64 ((rdD p0_0_3 t242).1), .int .u8 ((rdD p0_0_3 t242).2)], box b252 64 [.int .i64 ((rdD p0_0_3 t242).1), .int .u8 ((rdD p0_0_3 t242).2)], sl Rp.str (.slice (some ⟨b272, 0, none⟩) (([(⟨#[114, 97, 109]⟩ : ByteArray), t264, t266] : List ByteArray).length) 3) ([(⟨#[114, 97, 109]⟩ : ByteArray), t264, t266] : List ByteArray)] := h294.call hu296
   refine RunsI.l [3, 4, 45, 46, 47] [(3, .pointer (some ⟨b237, 0, none⟩)), (4, .pointer (some ⟨b241, 0, none⟩)), (45, .slice pA0_0_3 p0_0_3.length pc0_0_3), (46, .int .i64 (p0_0_3.length : Int)), (47, .int .i64 t242)] ?_
   refine RunsI.g 1 [.c 44, .lp 33, .blk 2, .c 45] ?_
   refine RunsI.r ?_
   refine RegI.p 2 [(3, .pointer (some ⟨b237, 0, none⟩)), (4, .pointer (some ⟨b241, 0, none⟩)), (45, .slice pA0_0_3 p0_0_3.length pc0_0_3), (46, .int .i64 (p0_0_3.length : Int)), (47, .int .i64 (IntKind.wrap .i64 (t242 + 1)))] ?_
   refine RegI.d ?_
   refine RunsI.g 1 [.c 33, .lp 33, .blk 2, .c 45] ?_
   refine RunsI.l [3, 4, 45, 46, 47] [(3, .pointer (some ⟨b237, 0, none⟩)), (4, .pointer (some ⟨b241, 0, none⟩)), (45, .slice pA0_0_3 p0_0_3.length pc0_0_3), (46, .int .i64 (p0_0_3.length : Int)), (47, .int .i64 (IntKind.wrap .i64 (t242 + 1)))] ?_
   exact ih (t240 ++ (t288 ++ (⟨#[10]⟩ : ByteArray)).data.toList) (IntKind.wrap .i64 (t242 + 1)) A292 c293 w295 h (h297.pick [0, 1, 2, 3, 4, 5, 6] (by decide))
  ·skip
   refine RunsI.f 48 false hc244 ?_
   refine RunsI.b false 38 ?_
   refine RunsI.g 1 [.c 45] ?_
   refine RunsI.l [3] [(3, .pointer (some ⟨b237, 0, none⟩))] ?_
   exact hk0 t240 A238 c239 w (Option.some.inj h).symm (hH.pick [0, 3, 4, 5, 6] (by decide))
def image_Show_16.f (K : Nat) (p0_0_0 : List Int) (p0_0_1 : Int) (p0_0_2 : Int) (p0_0_3 : List (Int × Int)) (p0_1 : Int) : Option ByteArray := (image_Check_18.f K p0_0_0 p0_0_1 p0_0_2 p0_0_3 p0_1).bind fun t10 => cond (t10 != 0) (some (⟨#[]⟩ : ByteArray)) ((image_hex_28.f K p0_0_1 1).bind fun t31 => (strings_Join_31.f K ([(⟨#[98, 97, 110, 107, 115]⟩ : ByteArray), t31] : List ByteArray) (⟨#[32]⟩ : ByteArray)).bind fun t53 => cond (mayCat t53.size (⟨#[10]⟩ : ByteArray).size) (cond (bldR ([] : List UInt8).length (t53 ++ (⟨#[10]⟩ : ByteArray)).size) ((image_hex_28.f K p0_0_2 1).bind fun t68 => (strings_Join_31.f K ([(⟨#[98, 97, 110, 107]⟩ : ByteArray), t68] : List ByteArray) (⟨#[32]⟩ : ByteArray)).bind fun t90 => cond (mayCat t90.size (⟨#[10]⟩ : ByteArray).size) (cond (bldR (([] : List UInt8) ++ (t53 ++ (⟨#[10]⟩ : ByteArray)).data.toList).length (t90 ++ (⟨#[10]⟩ : ByteArray)).size) ((image_hex_28.f K (IntKind.wrap .i64 p0_1) 4).bind fun t105 => (strings_Join_31.f K ([(⟨#[112, 99]⟩ : ByteArray), t105] : List ByteArray) (⟨#[32]⟩ : ByteArray)).bind fun t127 => cond (mayCat t127.size (⟨#[10]⟩ : ByteArray).size) (cond (bldR ((([] : List UInt8) ++ (t53 ++ (⟨#[10]⟩ : ByteArray)).data.toList) ++ (t90 ++ (⟨#[10]⟩ : ByteArray)).data.toList).length (t127 ++ (⟨#[10]⟩ : ByteArray)).size) ((image_Show_16.l0 K p0_0_0 p0_0_1 p0_0_2 p0_0_3 p0_1 K (((([] : List UInt8) ++ (t53 ++ (⟨#[10]⟩ : ByteArray)).data.toList) ++ (t90 ++ (⟨#[10]⟩ : ByteArray)).data.toList) ++ (t127 ++ (⟨#[10]⟩ : ByteArray)).data.toList) 0).bind (fun t231 => (image_Show_16.l1 K p0_0_0 p0_0_1 p0_0_2 p0_0_3 p0_1 K t231 0).bind (fun t305 => cond (Nat.blt 0 t305.length) (some (⟨List.toArray t305⟩ : ByteArray)) none))) none) none) none) none) none) none)
set_option maxRecDepth 100000 in
theorem image_Show_16_ok (K : Nat) (M0 : Nat → Prop) (w0 : World) (pA0_0_0 : Option Addr) (pc0_0_0 : Nat) (pA0_0_3 : Option Addr) (pc0_0_3 : Nat) (p0_0_0 : List Int) (p0_0_1 : Int) (p0_0_2 : Int) (p0_0_3 : List (Int × Int)) (p0_1 : Int) (ho : ∀ b, M0 b → b < w0.heap.size) (hs0_0_0 : Sl (Rp.int .u8) w0 M0 (.slice pA0_0_0 p0_0_0.length pc0_0_0) p0_0_0) (hs0_0_3 : Sl (Rp.pair (Rp.int .i64) (Rp.int .u8)) w0 M0 (.slice pA0_0_3 p0_0_3.length pc0_0_3) p0_0_3) (hG1 : (gl 1 (tab_1.flatMap en_1)).ok w0 M0) (hG4 : (gl 4 (tab_4.flatMap en_4)).ok w0 M0) (hG5 : (gl 5 (tab_5.flatMap en_5)).ok w0 M0) {r : ByteArray} (h : image_Show_16.f K p0_0_0 p0_0_1 p0_0_2 p0_0_3 p0_1 = some r) :
  Calls Tryd.prog 16 #[.agg #[.slice pA0_0_0 p0_0_0.length pc0_0_0, .int .i64 p0_0_1, .int .i64 p0_0_2, .slice pA0_0_3 p0_0_3.length pc0_0_3, .int .u16 p0_1]] w0 (image_Show_16.post M0 w0 r) := by
 unfold image_Show_16.f at h
 have h0 : Holds M0 w0 w0 [] := Holds.start ho
 have h00_0_0 := h0.addSl (Rp.int .u8) (.slice pA0_0_0 p0_0_0.length pc0_0_0) p0_0_0 (hs0_0_0.mono (fun _ _ hm => hm.elim id (fun hm => absurd hm (by simp [mines, sl]))))
 have h00_0_3 := h00_0_0.addSl (Rp.pair (Rp.int .i64) (Rp.int .u8)) (.slice pA0_0_3 p0_0_3.length pc0_0_3) p0_0_3 (hs0_0_3.mono (fun _ _ hm => hm.elim id (fun hm => absurd hm (by simp [mines, sl]))))
 have h0g1 := h00_0_3.add (gl 1 (tab_1.flatMap en_1)) rfl ⟨hG1.1, fun hm => hG1.2.1 (hm.elim id (fun hm => absurd hm (by simp [mines, sl, gl]))), hG1.2.2⟩
 have h0g4 := h0g1.add (gl 4 (tab_4.flatMap en_4)) rfl ⟨hG4.1, fun hm => hG4.2.1 (hm.elim id (fun hm => absurd hm (by simp [mines, sl, gl]))), hG4.2.2⟩
 have h0g5 := h0g4.add (gl 5 (tab_5.flatMap en_5)) rfl ⟨hG5.1, fun hm => hG5.2.1 (hm.elim id (fun hm => absurd hm (by simp [mines, sl, gl]))), hG5.2.2⟩
 have h0 : Holds M0 w0 w0 [sl (Rp.int .u8) (.slice pA0_0_0 p0_0_0.length pc0_0_0) p0_0_0, sl (Rp.pair (Rp.int .i64) (Rp.int .u8)) (.slice pA0_0_3 p0_0_3.length pc0_0_3) p0_0_3, gl 1 (tab_1.flatMap en_1), gl 4 (tab_4.flatMap en_4), gl 5 (tab_5.flatMap en_5)] := h0g5
 refine calls_of F16 rfl [.agg #[.slice pA0_0_0 p0_0_0.length pc0_0_0, .int .i64 p0_0_1, .int .i64 p0_0_2, .slice pA0_0_3 p0_0_3.length pc0_0_3, .int .u16 p0_1]] (by kernel_rfl) ?_
 refine RunsI.g 1 [.c 1, .c 2] ?_
 refine RunsI.r ?_
 refine RegI.o (OpE.box 1 29 [.slice pA0_0_0 p0_0_0.length pc0_0_0, .int .i64 p0_0_1, .int .i64 p0_0_2, .slice pA0_0_3 p0_0_3.length pc0_0_3, .int .u16 p0_1] h0 (by kernel_rfl) (by kernel_rfl) ?_)
 intro w1 b2 h3 hb4 hn5
 refine RegI.p 1 [(1, .pointer (some ⟨b2, 0, none⟩))] ?_
 refine RegI.d ?_
 refine RunsI.g 2 [.c 4, .c 5, .c 10] ?_
 refine RunsI.r ?_
 refine RegI.o (OpE.loadBox 8 5 29 b2 0 (.agg #[.slice pA0_0_0 p0_0_0.length pc0_0_0, .int .i64 p0_0_1, .int .i64 p0_0_2, .slice pA0_0_3 p0_0_3.length pc0_0_3, .int .u16 p0_1]) h3 (by kernel_rfl) (by kernel_rfl) rfl (by kernel_rfl) ?_)
 obtain ⟨t10, hg9, h⟩ := of_bind h
 refine RegI.o (OpE.call 9 (by kernel_rfl) 18 #[.agg #[.slice pA0_0_0 p0_0_0.length pc0_0_0, .int .i64 p0_0_1, .int .i64 p0_0_2, .slice pA0_0_3 p0_0_3.length pc0_0_3, .int .u16 p0_1]] (by kernel_rfl) ((image_Check_18_ok K _ w1  pA0_0_0 pc0_0_0 pA0_0_3 pc0_0_3 p0_0_0 p0_0_1 p0_0_2 p0_0_3 p0_1 h3.old' (h3.get 0 rfl) (h3.get 1 rfl) hg9).mono ?_))
 rintro _ w6 ⟨rfl, hb7⟩
 refine ⟨_, rfl, ?_⟩
 have h8 := h3.call hb7
 refine RegI.p 1 [(1, .pointer (some ⟨b2, 0, none⟩)), (10, .bool (t10 != 0))] ?_
 refine RegI.d ?_
 rcases of_cond h with ⟨hc11, h⟩ | ⟨hc11, h⟩
 ·skip
  refine RunsI.f 10 true hc11 ?_
  refine RunsI.b true 6 ?_
  refine RunsI.g 1 [.c 7, .c 8, .c 10] ?_
  refine RunsI.r ?_
  refine RegI.p 1 [(2, .string (⟨#[]⟩ : ByteArray))] ?_
  refine RegI.d ?_
  refine RunsI.t (.string (⟨#[]⟩ : ByteArray)) ?_
  obtain rfl := Option.some.inj h
  exact ⟨rfl, h8.below⟩
 ·skip
  refine RunsI.f 10 false hc11 ?_
  refine RunsI.b false 9 ?_
  refine RunsI.g 1 [.c 10] ?_
  refine RunsI.g 1 [.c 11, .c 12] ?_
  refine RunsI.r ?_
  refine RegI.o (OpE.box 3 68 [.pointer none, .slice none 0 0] h8 (by kernel_rfl) (by kernel_rfl) ?_)
  intro w12 b13 h14 hb16 hn17
  have h15 := h14.boxBl (E := 5) 6 rfl
  refine RegI.d ?_
  refine RunsI.g 1 [.c 13, .c 14] ?_
  refine RunsI.r ?_
  refine RegI.p 1 [(1, .pointer (some ⟨b2, 0, none⟩)), (3, .pointer (some ⟨b13, 0, none⟩)), (11, .func (.func 30) #[] #[.pointer (some ⟨b13, 0, none⟩)])] ?_
  refine RegI.o (OpE.box 4 76 [.nilFunc] h15 (by kernel_rfl) (by kernel_rfl) ?_)
  intro w18 b19 h20 hb21 hn22
  refine RegI.o (OpE.storeBox 7 76 b19 0 (.func (.func 30) #[] #[.pointer (some ⟨b13, 0, none⟩)]) [.func (.func 30) #[] #[.pointer (some ⟨b13, 0, none⟩)]] h20 (by kernel_rfl) (by kernel_rfl) rfl (by kernel_rfl) (by kernel_rfl) (by kernel_rfl) ?_)
  intro w23 h24 hk25
  refine RegI.d ?_
  refine RunsI.g 1 [.c 15, .c 16] ?_
  refine RunsI.any 7 (by kernel_rfl) (by kernel_rfl) (by kernel_rfl) (Kp ([] : List Nat) (World.drew w23)) ?_
  have h27 := h24.drew
  generalize World.drew w23 = w26 at h27 ⊢
  have hS28 := Kp.refl ([] : List Nat) w26
  refine AnyE.loadBox 0 12 7 76 b19 0 (.func (.func 30) #[] #[.pointer (some ⟨b13, 0, none⟩)]) [] h27 rfl (by kernel_rfl) hS28 rfl rfl (by kernel_rfl) (by kernel_rfl) ?_
  refine AnyE.pure 1 13 (.pointer (some ⟨b2, 0, none⟩)) (by kernel_rfl) hS28 (fun _ => by kernel_rfl) ?_
  refine AnyE.pure 2 14 (.pointer (some ⟨b2, 1, none⟩)) (by kernel_rfl) hS28 (fun _ => by kernel_rfl) ?_
  refine AnyE.loadBox 3 15 5 3 b2 1 (.int .i64 p0_0_1) [] h27 rfl (by kernel_rfl) hS28 rfl rfl (by kernel_rfl) (by kernel_rfl) ?_
  obtain ⟨t31, hg30, h⟩ := of_bind h
  refine AnyE.call 4 16 (.string t31) 28 #[.int .i64 p0_0_1, .int .i64 1] (by kernel_rfl) hS28 (fun _ => by kernel_rfl) (fun w hk => image_hex_28_ok K (fun _ => False) w p0_0_1 1 (fun _ hf => hf.elim) ⟨(h27.atI [] rfl hk 2 rfl rfl).1, fun hf => hf.elim, (h27.atI [] rfl hk 2 rfl rfl).2.2⟩ ⟨(h27.atI [] rfl hk 3 rfl rfl).1, fun hf => hf.elim, (h27.atI [] rfl hk 3 rfl rfl).2.2⟩ ⟨(h27.atI [] rfl hk 4 rfl rfl).1, fun hf => hf.elim, (h27.atI [] rfl hk 4 rfl rfl).2.2⟩ hg30) ?_
  refine AnyE.one 5 (by kernel_rfl) (fun w32 hu33 => ?_)
  have h34 := h27.call hu33
  have hS35 := hS28.up hu33
  refine OpE.lit 17 9 [.string (⟨#[98, 97, 110, 107, 115]⟩ : ByteArray), .string t31] 2 h34 (by kernel_rfl) (by kernel_rfl) ?_
  intro w36 b37 h38 hb39 hn40
  have hn41 := Nat.le_trans hS35.1 hn40
  have hS42 := hS35.up hb39
  refine ⟨hS42, ?_⟩
  refine AnyE.last 6 (by kernel_rfl) (by kernel_rfl) (fun w43 hu44 => ?_)
  have h45 := h38.call hu44
  have hS46 := hS42.up hu44
  refine OpE.enter 18 (by kernel_rfl) F30 30 rfl [.slice (some ⟨b37, 0, none⟩) (([(⟨#[98, 97, 110, 107, 115]⟩ : ByteArray), t31] : List ByteArray).length) 2, .pointer (some ⟨b13, 0, none⟩)] (by kernel_rfl) (by kernel_rfl) ?_
  refine RunsI.r ?_
  refine RegI.p 1 [(1, .pointer (some ⟨b13, 0, none⟩)), (3, .slice (some ⟨b37, 0, none⟩) (([(⟨#[98, 97, 110, 107, 115]⟩ : ByteArray), t31] : List ByteArray).length) 2)] ?_
  obtain ⟨t53, hg52, h⟩ := of_bind h
  have h47 := h45.boxOwn 8 rfl Rp.str ([(⟨#[98, 97, 110, 107, 115]⟩ : ByteArray), t31] : List ByteArray) (cells_str _ _ _) (Nat.le_of_ble_eq_true (by kernel_rfl))
  have h48 := h47.release 8 rfl
  refine RegI.o (OpE.call 4 (by kernel_rfl) 31 #[.slice (some ⟨b37, 0, none⟩) (([(⟨#[98, 97, 110, 107, 115]⟩ : ByteArray), t31] : List ByteArray).length) 2, .string (⟨#[32]⟩ : ByteArray)] (by kernel_rfl) ((strings_Join_31_ok K _ w43  (some ⟨b37, 0, none⟩) 2 ([(⟨#[98, 97, 110, 107, 115]⟩ : ByteArray), t31] : List ByteArray) (⟨#[32]⟩ : ByteArray) h48.old' (h48.get 8 rfl) hg52).mono ?_))
  rintro _ w49 ⟨rfl, hb50⟩
  refine ⟨_, rfl, ?_⟩
  have h51 := h48.call hb50
  obtain ⟨hc54, h⟩ := of_cond0 h
  refine RegI.o (OpE.run 5 (by kernel_rfl) (run_cat (a := t53) (b := (⟨#[10]⟩ : ByteArray)) (by kernel_rfl) hc54) ?_)
  obtain ⟨hc55, h⟩ := of_cond0 h
  refine RegI.o (OpE.call 6 (by kernel_rfl) 27 #[.pointer (some ⟨b13, 0, none⟩), .string (t53 ++ (⟨#[10]⟩ : ByteArray))] (by kernel_rfl) ((strings_Builder_WriteString_27_ok 6 (t53 ++ (⟨#[10]⟩ : ByteArray)) h51 rfl hc55).mono ?_))
  rintro _ w56 ⟨rfl, A57, c58, h59⟩
  refine ⟨_, rfl, ?_⟩
  refine RegI.d ?_
  refine RunsI.t (.tuple #[]) ?_
  refine cont_mk ?_
  refine AnyE.done (by kernel_rfl) (fun w60 hu61 => ?_)
  have h62 : Holds M0 w0 w60 [sl (Rp.int .u8) (.slice pA0_0_0 p0_0_0.length pc0_0_0) p0_0_0, sl (Rp.pair (Rp.int .i64) (Rp.int .u8)) (.slice pA0_0_3 p0_0_3.length pc0_0_3) p0_0_3, gl 1 (tab_1.flatMap en_1), gl 4 (tab_4.flatMap en_4), gl 5 (tab_5.flatMap en_5), box b2 29 [.slice pA0_0_0 p0_0_0.length pc0_0_0, .int .i64 p0_0_1, .int .i64 p0_0_2, .slice pA0_0_3 p0_0_3.length pc0_0_3, .int .u16 p0_1], bl 68 5 b13 (.slice A57 (([] : List UInt8) ++ (t53 ++ (⟨#[10]⟩ : ByteArray)).data.toList).length c58) A57 c58 (([] : List UInt8) ++ (t53 ++ (⟨#[10]⟩ : ByteArray)).data.toList), box b19 76 [.func (.func 30) #[] #[.pointer (some ⟨b13, 0, none⟩)]], sl Rp.str (.slice (some ⟨b37, 0, none⟩) (([(⟨#[98, 97, 110, 107, 115]⟩ : ByteArray), t31] : List ByteArray).length) 2) ([(⟨#[98, 97, 110, 107, 115]⟩ : ByteArray), t31] : List ByteArray)] := h59.call hu61
  refine RunsI.l [1, 3, 4] [(1, .pointer (some ⟨b2, 0, none⟩)), (3, .pointer (some ⟨b13, 0, none⟩)), (4, .pointer (some ⟨b19, 0, none⟩))] ?_
  refine RunsI.g 1 [.c 17, .c 18] ?_
  refine RunsI.any 7 (by kernel_rfl) (by kernel_rfl) (by kernel_rfl) (Kp ([] : List Nat) (World.drew w60)) ?_
  have h64 := h62.drew
  generalize World.drew w60 = w63 at h64 ⊢
  have hS65 := Kp.refl ([] : List Nat) w63
  refine AnyE.loadBox 0 19 7 76 b19 0 (.func (.func 30) #[] #[.pointer (some ⟨b13, 0, none⟩)]) [] h64 rfl (by kernel_rfl) hS65 rfl rfl (by kernel_rfl) (by kernel_rfl) ?_
  refine AnyE.pure 1 20 (.pointer (some ⟨b2, 0, none⟩)) (by kernel_rfl) hS65 (fun _ => by kernel_rfl) ?_
  refine AnyE.pure 2 21 (.pointer (some ⟨b2, 2, none⟩)) (by kernel_rfl) hS65 (fun _ => by kernel_rfl) ?_
  refine AnyE.loadBox 3 22 5 3 b2 2 (.int .i64 p0_0_2) [] h64 rfl (by kernel_rfl) hS65 rfl rfl (by kernel_rfl) (by kernel_rfl) ?_
  obtain ⟨t68, hg67, h⟩ := of_bind h
  refine AnyE.call 4 23 (.string t68) 28 #[.int .i64 p0_0_2, .int .i64 1] (by kernel_rfl) hS65 (fun _ => by kernel_rfl) (fun w hk => image_hex_28_ok K (fun _ => False) w p0_0_2 1 (fun _ hf => hf.elim) ⟨(h64.atI [] rfl hk 2 rfl rfl).1, fun hf => hf.elim, (h64.atI [] rfl hk 2 rfl rfl).2.2⟩ ⟨(h64.atI [] rfl hk 3 rfl rfl).1, fun hf => hf.elim, (h64.atI [] rfl hk 3 rfl rfl).2.2⟩ ⟨(h64.atI [] rfl hk 4 rfl rfl).1, fun hf => hf.elim, (h64.atI [] rfl hk 4 rfl rfl).2.2⟩ hg67) ?_
  refine AnyE.one 5 (by kernel_rfl) (fun w69 hu70 => ?_)
  have h71 := h64.call hu70
  have hS72 := hS65.up hu70
  refine OpE.lit 24 9 [.string (⟨#[98, 97, 110, 107]⟩ : ByteArray), .string t68] 2 h71 (by kernel_rfl) (by kernel_rfl) ?_
  intro w73 b74 h75 hb76 hn77
  have hn78 := Nat.le_trans hS72.1 hn77
  have hS79 := hS72.up hb76
  refine ⟨hS79, ?_⟩
  refine AnyE.last 6 (by kernel_rfl) (by kernel_rfl) (fun w80 hu81 => ?_)
  have h82 := h75.call hu81
  have hS83 := hS79.up hu81
  refine OpE.enter 25 (by kernel_rfl) F30 30 rfl [.slice (some ⟨b74, 0, none⟩) (([(⟨#[98, 97, 110, 107]⟩ : ByteArray), t68] : List ByteArray).length) 2, .pointer (some ⟨b13, 0, none⟩)] (by kernel_rfl) (by kernel_rfl) ?_
  refine RunsI.r ?_
  refine RegI.p 1 [(1, .pointer (some ⟨b13, 0, none⟩)), (3, .slice (some ⟨b74, 0, none⟩) (([(⟨#[98, 97, 110, 107]⟩ : ByteArray), t68] : List ByteArray).length) 2)] ?_
  obtain ⟨t90, hg89, h⟩ := of_bind h
  have h84 := h82.boxOwn 9 rfl Rp.str ([(⟨#[98, 97, 110, 107]⟩ : ByteArray), t68] : List ByteArray) (cells_str _ _ _) (Nat.le_of_ble_eq_true (by kernel_rfl))
  have h85 := h84.release 9 rfl
  refine RegI.o (OpE.call 4 (by kernel_rfl) 31 #[.slice (some ⟨b74, 0, none⟩) (([(⟨#[98, 97, 110, 107]⟩ : ByteArray), t68] : List ByteArray).length) 2, .string (⟨#[32]⟩ : ByteArray)] (by kernel_rfl) ((strings_Join_31_ok K _ w80  (some ⟨b74, 0, none⟩) 2 ([(⟨#[98, 97, 110, 107]⟩ : ByteArray), t68] : List ByteArray) (⟨#[32]⟩ : ByteArray) h85.old' (h85.get 9 rfl) hg89).mono ?_))
  rintro _ w86 ⟨rfl, hb87⟩
  refine ⟨_, rfl, ?_⟩
  have h88 := h85.call hb87
  obtain ⟨hc91, h⟩ := of_cond0 h
  refine RegI.o (OpE.run 5 (by kernel_rfl) (run_cat (a := t90) (b := (⟨#[10]⟩ : ByteArray)) (by kernel_rfl) hc91) ?_)
  obtain ⟨hc92, h⟩ := of_cond0 h
  refine RegI.o (OpE.call 6 (by kernel_rfl) 27 #[.pointer (some ⟨b13, 0, none⟩), .string (t90 ++ (⟨#[10]⟩ : ByteArray))] (by kernel_rfl) ((strings_Builder_WriteString_27_ok 6 (t90 ++ (⟨#[10]⟩ : ByteArray)) h88 rfl hc92).mono ?_))
  rintro _ w93 ⟨rfl, A94, c95, h96⟩
  refine ⟨_, rfl, ?_⟩
  refine RegI.d ?_
  refine RunsI.t (.tuple #[]) ?_
  refine cont_mk ?_
  refine AnyE.done (by kernel_rfl) (fun w97 hu98 => ?_)
  have h99 : Holds M0 w0 w97 [sl (Rp.int .u8) (.slice pA0_0_0 p0_0_0.length pc0_0_0) p0_0_0, sl (Rp.pair (Rp.int .i64) (Rp.int .u8)) (.slice pA0_0_3 p0_0_3.length pc0_0_3) p0_0_3, gl 1 (tab_1.flatMap en_1), gl 4 (tab_4.flatMap en_4), gl 5 (tab_5.flatMap en_5), box b2 29 [.slice pA0_0_0 p0_0_0.length pc0_0_0, .int .i64 p0_0_1, .int .i64 p0_0_2, .slice pA0_0_3 p0_0_3.length pc0_0_3, .int .u16 p0_1], bl 68 5 b13 (.slice A94 ((([] : List UInt8) ++ (t53 ++ (⟨#[10]⟩ : ByteArray)).data.toList) ++ (t90 ++ (⟨#[10]⟩ : ByteArray)).data.toList).length c95) A94 c95 ((([] : List UInt8) ++ (t53 ++ (⟨#[10]⟩ : ByteArray)).data.toList) ++ (t90 ++ (⟨#[10]⟩ : ByteArray)).data.toList), box b19 76 [.func (.func 30) #[] #[.pointer (some ⟨b13, 0, none⟩)]], sl Rp.str (.slice (some ⟨b37, 0, none⟩) (([(⟨#[98, 97, 110, 107, 115]⟩ : ByteArray), t31] : List ByteArray).length) 2) ([(⟨#[98, 97, 110, 107, 115]⟩ : ByteArray), t31] : List ByteArray), sl Rp.str (.slice (some ⟨b74, 0, none⟩) (([(⟨#[98, 97, 110, 107]⟩ : ByteArray), t68] : List ByteArray).length) 2) ([(⟨#[98, 97, 110, 107]⟩ : ByteArray), t68] : List ByteArray)] := h96.call hu98
  refine RunsI.l [1, 3, 4] [(1, .pointer (some ⟨b2, 0, none⟩)), (3, .pointer (some ⟨b13, 0, none⟩)), (4, .pointer (some ⟨b19, 0, none⟩))] ?_
  refine RunsI.g 1 [.c 19, .c 20] ?_
  refine RunsI.any 7 (by kernel_rfl) (by kernel_rfl) (by kernel_rfl) (Kp ([] : List Nat) (World.drew w97)) ?_
  have h101 := h99.drew
  generalize World.drew w97 = w100 at h101 ⊢
  have hS102 := Kp.refl ([] : List Nat) w100
  refine AnyE.loadBox 0 26 7 76 b19 0 (.func (.func 30) #[] #[.pointer (some ⟨b13, 0, none⟩)]) [] h101 rfl (by kernel_rfl) hS102 rfl rfl (by kernel_rfl) (by kernel_rfl) ?_
  refine AnyE.pure 1 27 (.pointer (some ⟨b2, 4, none⟩)) (by kernel_rfl) hS102 (fun _ => by kernel_rfl) ?_
  refine AnyE.loadBox 2 28 5 27 b2 4 (.int .u16 p0_1) [] h101 rfl (by kernel_rfl) hS102 rfl rfl (by kernel_rfl) (by kernel_rfl) ?_
  refine AnyE.pure 3 29 (.int .i64 (IntKind.wrap .i64 p0_1)) (by kernel_rfl) hS102 (fun _ => by kernel_rfl) ?_
  obtain ⟨t105, hg104, h⟩ := of_bind h
  refine AnyE.call 4 30 (.string t105) 28 #[.int .i64 (IntKind.wrap .i64 p0_1), .int .i64 4] (by kernel_rfl) hS102 (fun _ => by kernel_rfl) (fun w hk => image_hex_28_ok K (fun _ => False) w (IntKind.wrap .i64 p0_1) 4 (fun _ hf => hf.elim) ⟨(h101.atI [] rfl hk 2 rfl rfl).1, fun hf => hf.elim, (h101.atI [] rfl hk 2 rfl rfl).2.2⟩ ⟨(h101.atI [] rfl hk 3 rfl rfl).1, fun hf => hf.elim, (h101.atI [] rfl hk 3 rfl rfl).2.2⟩ ⟨(h101.atI [] rfl hk 4 rfl rfl).1, fun hf => hf.elim, (h101.atI [] rfl hk 4 rfl rfl).2.2⟩ hg104) ?_
  refine AnyE.one 5 (by kernel_rfl) (fun w106 hu107 => ?_)
  have h108 := h101.call hu107
  have hS109 := hS102.up hu107
  refine OpE.lit 31 9 [.string (⟨#[112, 99]⟩ : ByteArray), .string t105] 2 h108 (by kernel_rfl) (by kernel_rfl) ?_
  intro w110 b111 h112 hb113 hn114
  have hn115 := Nat.le_trans hS109.1 hn114
  have hS116 := hS109.up hb113
  refine ⟨hS116, ?_⟩
  refine AnyE.last 6 (by kernel_rfl) (by kernel_rfl) (fun w117 hu118 => ?_)
  have h119 := h112.call hu118
  have hS120 := hS116.up hu118
  refine OpE.enter 32 (by kernel_rfl) F30 30 rfl [.slice (some ⟨b111, 0, none⟩) (([(⟨#[112, 99]⟩ : ByteArray), t105] : List ByteArray).length) 2, .pointer (some ⟨b13, 0, none⟩)] (by kernel_rfl) (by kernel_rfl) ?_
  refine RunsI.r ?_
  refine RegI.p 1 [(1, .pointer (some ⟨b13, 0, none⟩)), (3, .slice (some ⟨b111, 0, none⟩) (([(⟨#[112, 99]⟩ : ByteArray), t105] : List ByteArray).length) 2)] ?_
  obtain ⟨t127, hg126, h⟩ := of_bind h
  have h121 := h119.boxOwn 10 rfl Rp.str ([(⟨#[112, 99]⟩ : ByteArray), t105] : List ByteArray) (cells_str _ _ _) (Nat.le_of_ble_eq_true (by kernel_rfl))
  have h122 := h121.release 10 rfl
  refine RegI.o (OpE.call 4 (by kernel_rfl) 31 #[.slice (some ⟨b111, 0, none⟩) (([(⟨#[112, 99]⟩ : ByteArray), t105] : List ByteArray).length) 2, .string (⟨#[32]⟩ : ByteArray)] (by kernel_rfl) ((strings_Join_31_ok K _ w117  (some ⟨b111, 0, none⟩) 2 ([(⟨#[112, 99]⟩ : ByteArray), t105] : List ByteArray) (⟨#[32]⟩ : ByteArray) h122.old' (h122.get 10 rfl) hg126).mono ?_))
  rintro _ w123 ⟨rfl, hb124⟩
  refine ⟨_, rfl, ?_⟩
  have h125 := h122.call hb124
  obtain ⟨hc128, h⟩ := of_cond0 h
  refine RegI.o (OpE.run 5 (by kernel_rfl) (run_cat (a := t127) (b := (⟨#[10]⟩ : ByteArray)) (by kernel_rfl) hc128) ?_)
  obtain ⟨hc129, h⟩ := of_cond0 h
  refine RegI.o (OpE.call 6 (by kernel_rfl) 27 #[.pointer (some ⟨b13, 0, none⟩), .string (t127 ++ (⟨#[10]⟩ : ByteArray))] (by kernel_rfl) ((strings_Builder_WriteString_27_ok 6 (t127 ++ (⟨#[10]⟩ : ByteArray)) h125 rfl hc129).mono ?_))
  rintro _ w130 ⟨rfl, A131, c132, h133⟩
  refine ⟨_, rfl, ?_⟩
  refine RegI.d ?_
  refine RunsI.t (.tuple #[]) ?_
  refine cont_mk ?_
  refine AnyE.done (by kernel_rfl) (fun w134 hu135 => ?_)
  have h136 : Holds M0 w0 w134 [sl (Rp.int .u8) (.slice pA0_0_0 p0_0_0.length pc0_0_0) p0_0_0, sl (Rp.pair (Rp.int .i64) (Rp.int .u8)) (.slice pA0_0_3 p0_0_3.length pc0_0_3) p0_0_3, gl 1 (tab_1.flatMap en_1), gl 4 (tab_4.flatMap en_4), gl 5 (tab_5.flatMap en_5), box b2 29 [.slice pA0_0_0 p0_0_0.length pc0_0_0, .int .i64 p0_0_1, .int .i64 p0_0_2, .slice pA0_0_3 p0_0_3.length pc0_0_3, .int .u16 p0_1], bl 68 5 b13 (.slice A131 (((([] : List UInt8) ++ (t53 ++ (⟨#[10]⟩ : ByteArray)).data.toList) ++ (t90 ++ (⟨#[10]⟩ : ByteArray)).data.toList) ++ (t127 ++ (⟨#[10]⟩ : ByteArray)).data.toList).length c132) A131 c132 (((([] : List UInt8) ++ (t53 ++ (⟨#[10]⟩ : ByteArray)).data.toList) ++ (t90 ++ (⟨#[10]⟩ : ByteArray)).data.toList) ++ (t127 ++ (⟨#[10]⟩ : ByteArray)).data.toList), box b19 76 [.func (.func 30) #[] #[.pointer (some ⟨b13, 0, none⟩)]], sl Rp.str (.slice (some ⟨b37, 0, none⟩) (([(⟨#[98, 97, 110, 107, 115]⟩ : ByteArray), t31] : List ByteArray).length) 2) ([(⟨#[98, 97, 110, 107, 115]⟩ : ByteArray), t31] : List ByteArray), sl Rp.str (.slice (some ⟨b74, 0, none⟩) (([(⟨#[98, 97, 110, 107]⟩ : ByteArray), t68] : List ByteArray).length) 2) ([(⟨#[98, 97, 110, 107]⟩ : ByteArray), t68] : List ByteArray), sl Rp.str (.slice (some ⟨b111, 0, none⟩) (([(⟨#[112, 99]⟩ : ByteArray), t105] : List ByteArray).length) 2) ([(⟨#[112, 99]⟩ : ByteArray), t105] : List ByteArray)] := h133.call hu135
  refine RunsI.l [1, 3, 4] [(1, .pointer (some ⟨b2, 0, none⟩)), (3, .pointer (some ⟨b13, 0, none⟩)), (4, .pointer (some ⟨b19, 0, none⟩))] ?_
  refine RunsI.g 2 [.c 22, .c 23, .c 28] ?_
  refine RunsI.r ?_
  refine RegI.p 2 [(1, .pointer (some ⟨b2, 0, none⟩)), (3, .pointer (some ⟨b13, 0, none⟩)), (4, .pointer (some ⟨b19, 0, none⟩)), (34, .pointer (some ⟨b2, 0, none⟩))] ?_
  refine RegI.o (OpE.loadBox 35 5 22 b2 0 (.slice pA0_0_0 p0_0_0.length pc0_0_0) h136 (by kernel_rfl) (by kernel_rfl) rfl (by kernel_rfl) ?_)
  refine RegI.enter 36 [1, 3, 4] [(1, .pointer (some ⟨b2, 0, none⟩)), (3, .pointer (some ⟨b13, 0, none⟩)), (4, .pointer (some ⟨b19, 0, none⟩))] (by kernel_rfl) (by kernel_rfl) (by kernel_rfl) (by kernel_rfl) F23 23 rfl [.slice pA0_0_0 p0_0_0.length pc0_0_0, .int .i64 16] (by kernel_rfl) (by kernel_rfl) ?_
  refine RunsI.g 1 [.c 1, .c 2] ?_
  refine RunsI.r ?_
  refine RegI.o (OpE.box 2 22 [.slice pA0_0_0 p0_0_0.length pc0_0_0] h136 (by kernel_rfl) (by kernel_rfl) ?_)
  intro w137 b138 h139 hb140 hn141
  refine RegI.o (OpE.box 3 3 [.int .i64 16] h139 (by kernel_rfl) (by kernel_rfl) ?_)
  intro w142 b143 h144 hb145 hn146
  refine RegI.p 1 [(2, .pointer (some ⟨b138, 0, none⟩)), (3, .pointer (some ⟨b143, 0, none⟩))] ?_
  refine RegI.d ?_
  refine RunsI.g 2 [.c 4, .c 5, .c 8] ?_
  refine RunsI.r ?_
  refine RegI.o (OpE.loadBox 5 12 3 b143 0 (.int .i64 16) h144 (by kernel_rfl) (by kernel_rfl) rfl (by kernel_rfl) ?_)
  refine RegI.p 1 [(2, .pointer (some ⟨b138, 0, none⟩)), (3, .pointer (some ⟨b143, 0, none⟩)), (6, .bool false)] ?_
  refine RegI.d ?_
  refine RunsI.b false 7 ?_
  refine RunsI.g 2 [.c 9, .c 10] ?_
  refine RunsI.r ?_
  refine RegI.p 2 [(4, .func (.func 48) #[] #[.pointer (some ⟨b138, 0, none⟩), .pointer (some ⟨b143, 0, none⟩)])] ?_
  refine RegI.d ?_
  refine RunsI.t (.func (.func 48) #[] #[.pointer (some ⟨b138, 0, none⟩), .pointer (some ⟨b143, 0, none⟩)]) ?_
  refine cont_mk ?_
  refine RegI.d ?_
  refine RunsI.g 1 [.c 24, .blk 0, .c 28] ?_
  refine RunsI.rangeFunc (G := F48) [1, 3, 4, 36] [(1, .pointer (some ⟨b2, 0, none⟩)), (3, .pointer (some ⟨b13, 0, none⟩)), (4, .pointer (some ⟨b19, 0, none⟩)), (36, .func (.func 48) #[] #[.pointer (some ⟨b138, 0, none⟩), .pointer (some ⟨b143, 0, none⟩)])] 48 [.pointer (some ⟨b138, 0, none⟩), .pointer (some ⟨b143, 0, none⟩)] h144 (by kernel_rfl) (by kernel_rfl) (by kernel_rfl) (fun _ _ => by kernel_rfl) rfl rfl (by kernel_rfl) rfl rfl ?_
  intro b147 b148 w149 h150 hb151 hn152 hn153
  refine RunsI.g 1 [.c 1, .c 2] ?_
  refine RunsI.r ?_
  refine RegI.p 1 [(0, .func (.yield b148) #[] #[]), (1, .pointer (some ⟨b138, 0, none⟩)), (2, .pointer (some ⟨b143, 0, none⟩)), (4, .int .i64 0)] ?_
  refine RegI.d ?_
  refine RunsI.g 2 [.c 4, .lp 4, .blk 0] ?_
  obtain ⟨x227, hx228, h⟩ := of_bind h
  refine RunsI.l [0, 1, 2, 4] [(0, .func (.yield b148) #[] #[]), (1, .pointer (some ⟨b138, 0, none⟩)), (2, .pointer (some ⟨b143, 0, none⟩)), (4, .int .i64 0)] ?_
  refine image_Show_16.l0_ok K M0 w0 pA0_0_0 pc0_0_0 pA0_0_3 pc0_0_3 p0_0_0 p0_0_1 p0_0_2 p0_0_3 p0_1 b148 b2 b13 b19 b138 b143 b147 _ x227 ?_ K (((([] : List UInt8) ++ (t53 ++ (⟨#[10]⟩ : ByteArray)).data.toList) ++ (t90 ++ (⟨#[10]⟩ : ByteArray)).data.toList) ++ (t127 ++ (⟨#[10]⟩ : ByteArray)).data.toList) 0 A131 c132 w149 hx228 (h150.pick [14, 5, 0, 1, 6, 7, 11, 12, 13, 2, 3, 4] (by decide))
  ·intro t231 A229 c230 w233 hq314 h232
   (try rw [hq314] at h)
   refine RunsI.t (.tuple #[]) ?_
   refine contR_mk ?_
   refine RunsI.endLoop 7 h232 rfl rfl (by intro hh; cases hh) [.blk 0, .c 28] (by kernel_rfl) ?_
   intro w234 h235 hk236
   refine RunsI.g 3 [.c 30, .c 31, .c 45] ?_
   refine RunsI.r ?_
   refine RegI.p 2 [(3, .pointer (some ⟨b13, 0, none⟩)), (4, .pointer (some ⟨b19, 0, none⟩)), (44, .pointer (some ⟨b2, 3, none⟩))] ?_
   refine RegI.o (OpE.loadBox 45 0 24 b2 3 (.slice pA0_0_3 p0_0_3.length pc0_0_3) h235 (by kernel_rfl) (by kernel_rfl) rfl (by kernel_rfl) ?_)
   refine RegI.p 2 [(3, .pointer (some ⟨b13, 0, none⟩)), (4, .pointer (some ⟨b19, 0, none⟩)), (45, .slice pA0_0_3 p0_0_3.length pc0_0_3), (46, .int .i64 (p0_0_3.length : Int)), (47, .int .i64 0)] ?_
   refine RegI.d ?_
   refine RunsI.g 2 [.c 33, .lp 33, .blk 2, .c 45] ?_
   obtain ⟨x301, hx302, h⟩ := of_bind h
   refine RunsI.l [3, 4, 45, 46, 47] [(3, .pointer (some ⟨b13, 0, none⟩)), (4, .pointer (some ⟨b19, 0, none⟩)), (45, .slice pA0_0_3 p0_0_3.length pc0_0_3), (46, .int .i64 (p0_0_3.length : Int)), (47, .int .i64 0)] ?_
   refine image_Show_16.l1_ok K M0 w0 pA0_0_0 pc0_0_0 pA0_0_3 pc0_0_3 p0_0_0 p0_0_1 p0_0_2 p0_0_3 p0_1 b13 b19 b147 _ x301 ?_ K t231 0 A229 c230 w234 hx302 (h235.pick [3, 4, 2, 8, 9, 10, 11] (by decide))
   ·intro t305 A303 c304 w307 hq315 h306
    (try rw [hq315] at h)
    refine RunsI.g 1 [.c 46, .c 47] ?_
    refine RunsI.r ?_
    obtain ⟨hc308, h⟩ := of_cond0 h
    refine RegI.o (OpE.call 62 (by kernel_rfl) 29 #[.pointer (some ⟨b13, 0, none⟩)] (by kernel_rfl) ((strings_Builder_String_29_ok 0 h306 rfl hc308).mono ?_))
    rintro _ w309 ⟨rfl, h310⟩
    refine ⟨_, rfl, ?_⟩
    refine RegI.p 1 [(2, .string (⟨List.toArray t305⟩ : ByteArray))] ?_
    refine RegI.d ?_
    refine RunsI.toRet (by kernel_rfl) ?_
    refine RetI.takeH 1 b147 h310 rfl ?_
    intro w311 h312 hk313
    refine RetI.val (.string (⟨List.toArray t305⟩ : ByteArray)) (by kernel_rfl) ?_
    obtain rfl := Option.some.inj h
    exact ⟨rfl, h312.below⟩
end

/-! ### charabanc/charabanclaw30.awake (function 6) -/
section
def charabanclaw30_awake_6.post (M0 : Nat → Prop) (w0 : World) (r : Bool) : Ending → World → Prop := fun e w => e = .returned (.bool r) ∧ Below w0.heap.size w0 w
def charabanclaw30_awake_6.f (K : Nat) : Option Bool := (image_Read_7.f K (⟨#[59, 32, 97, 32, 98, 111, 97, 114, 100, 10, 98, 97, 110, 107, 115, 32, 50, 10, 114, 111, 109, 32, 51, 101, 48, 55, 55, 54, 10, 114, 97, 109, 32, 49, 48, 48, 48, 48, 32, 48, 53, 10, 112, 99, 32, 48, 48, 52, 48, 10]⟩ : ByteArray)).bind fun yt5 => (image_Bytes_9.f K (⟨#[48, 97, 102, 102]⟩ : ByteArray)).bind fun yt31 => (image_Read_7.f K (⟨#[114, 111, 109, 32, 51, 101, 10, 114, 111, 109, 32, 51]⟩ : ByteArray)).bind fun yt41 => cond (yt5.2.2.2.2.2.1 == 0) (cond (yt5.2.2.2.2.2.2 == 0) (cond ((yt5.1.length : Int) == 3) (cond (yt5.2.1 == 2) (cond ((yt5.2.2.2.1.length : Int) == 1) (cond (yt5.2.2.2.2.1 == 64) (cond yt31.2 (cond ((yt31.1.length : Int) == 2) (cond (inR 1 yt31.1.length) (cond ((rdD yt31.1 1) == 255) ((image_Digits_13.f K yt31.1).bind fun t79 => cond ((ByteArray.toList t79) == (ByteArray.toList (⟨#[48, 97, 102, 102]⟩ : ByteArray))) (cond (yt41.2.2.2.2.2.1 == 300) (cond (yt41.2.2.2.2.2.2 == 2) ((image_Check_18.f K yt5.1 yt5.2.1 yt5.2.2.1 yt5.2.2.2.1 yt5.2.2.2.2.1).bind fun t87 => cond (t87 == 0) ((image_Show_16.f K yt5.1 yt5.2.1 yt5.2.2.1 yt5.2.2.2.1 yt5.2.2.2.2.1).bind fun t93 => some ((ByteArray.toList t93) == (ByteArray.toList (⟨#[98, 97, 110, 107, 115, 32, 50, 10, 98, 97, 110, 107, 32, 48, 10, 112, 99, 32, 48, 48, 52, 48, 10, 114, 111, 109, 32, 51, 101, 48, 55, 55, 54, 10, 114, 97, 109, 32, 49, 48, 48, 48, 48, 32, 48, 53, 10]⟩ : ByteArray)))) (some false)) (some false)) (some false)) (some false)) (some false)) none) (some false)) (some false)) (some false)) (some false)) (some false)) (some false)) (some false)) (some false)
set_option maxRecDepth 100000 in
theorem charabanclaw30_awake_6_ok (K : Nat) (M0 : Nat → Prop) (w0 : World) (ho : ∀ b, M0 b → b < w0.heap.size) (hG1 : (gl 1 (tab_1.flatMap en_1)).ok w0 M0) (hG4 : (gl 4 (tab_4.flatMap en_4)).ok w0 M0) (hG5 : (gl 5 (tab_5.flatMap en_5)).ok w0 M0) {r : Bool} (h : charabanclaw30_awake_6.f K = some r) :
  Calls Tryd.prog 6 #[] w0 (charabanclaw30_awake_6.post M0 w0 r) := by
 unfold charabanclaw30_awake_6.f at h
 have h0 : Holds M0 w0 w0 [] := Holds.start ho
 have h0g1 := h0.add (gl 1 (tab_1.flatMap en_1)) rfl ⟨hG1.1, fun hm => hG1.2.1 (hm.elim id (fun hm => absurd hm (by simp [mines, sl, gl]))), hG1.2.2⟩
 have h0g4 := h0g1.add (gl 4 (tab_4.flatMap en_4)) rfl ⟨hG4.1, fun hm => hG4.2.1 (hm.elim id (fun hm => absurd hm (by simp [mines, sl, gl]))), hG4.2.2⟩
 have h0g5 := h0g4.add (gl 5 (tab_5.flatMap en_5)) rfl ⟨hG5.1, fun hm => hG5.2.1 (hm.elim id (fun hm => absurd hm (by simp [mines, sl, gl]))), hG5.2.2⟩
 have h0 : Holds M0 w0 w0 [gl 1 (tab_1.flatMap en_1), gl 4 (tab_4.flatMap en_4), gl 5 (tab_5.flatMap en_5)] := h0g5
 refine calls_of F6 rfl [] (by kernel_rfl) ?_
 refine RunsI.g 1 [.c 1, .c 2] ?_
 refine RunsI.r ?_
 refine RegI.p 1 [] ?_
 refine RegI.d ?_
 refine RunsI.g 1 [.c 3, .c 4] ?_
 refine RunsI.r ?_
 obtain ⟨⟨t5, t9, t10, t11, t15, t16, t17⟩, hg4, h⟩ := of_bind h
 dsimp only at h
 refine RegI.o (OpE.call 10 (by kernel_rfl) 7 #[.string (⟨#[59, 32, 97, 32, 98, 111, 97, 114, 100, 10, 98, 97, 110, 107, 115, 32, 50, 10, 114, 111, 109, 32, 51, 101, 48, 55, 55, 54, 10, 114, 97, 109, 32, 49, 48, 48, 48, 48, 32, 48, 53, 10, 112, 99, 32, 48, 48, 52, 48, 10]⟩ : ByteArray)] (by kernel_rfl) ((image_Read_7_ok K _ w0  (⟨#[59, 32, 97, 32, 98, 111, 97, 114, 100, 10, 98, 97, 110, 107, 115, 32, 50, 10, 114, 111, 109, 32, 51, 101, 48, 55, 55, 54, 10, 114, 97, 109, 32, 49, 48, 48, 48, 48, 32, 48, 53, 10, 112, 99, 32, 48, 48, 52, 48, 10]⟩ : ByteArray) h0.old' hg4).mono ?_))
 rintro _ w1 ⟨A6, c7, A12, c13, rfl, hr18⟩
 refine ⟨_, rfl, ?_⟩
 have hb2 := hr18.below
 have h3 := h0.join hr18
 refine RegI.p 4 [(11, .agg #[.slice A6 t5.length c7, .int .i64 t9, .int .i64 t10, .slice A12 t11.length c13, .int .u16 t15]), (12, .int .i64 t16), (13, .int .i64 t17)] ?_
 refine RegI.o (OpE.box 1 29 [.slice none 0 0, .int .i64 0, .int .i64 0, .slice none 0 0, .int .u16 0] h3 (by kernel_rfl) (by kernel_rfl) ?_)
 intro w19 b20 h21 hb22 hn23
 refine RegI.o (OpE.storeBox 5 29 b20 0 (.agg #[.slice A6 t5.length c7, .int .i64 t9, .int .i64 t10, .slice A12 t11.length c13, .int .u16 t15]) [.slice A6 t5.length c7, .int .i64 t9, .int .i64 t10, .slice A12 t11.length c13, .int .u16 t15] h21 (by kernel_rfl) (by kernel_rfl) rfl (by kernel_rfl) (by kernel_rfl) (by kernel_rfl) ?_)
 intro w24 h25 hk26
 refine RegI.p 2 [(1, .pointer (some ⟨b20, 0, none⟩)), (2, .int .i64 t16), (3, .int .i64 t17)] ?_
 refine RegI.d ?_
 refine RunsI.g 1 [.c 5, .c 6] ?_
 refine RunsI.r ?_
 obtain ⟨⟨t31, t35⟩, hg30, h⟩ := of_bind h
 dsimp only at h
 refine RegI.o (OpE.call 15 (by kernel_rfl) 9 #[.string (⟨#[48, 97, 102, 102]⟩ : ByteArray)] (by kernel_rfl) ((image_Bytes_9_ok K _ w24  (⟨#[48, 97, 102, 102]⟩ : ByteArray) h25.old' hg30).mono ?_))
 rintro _ w27 ⟨A32, c33, rfl, hr36⟩
 refine ⟨_, rfl, ?_⟩
 have hb28 := hr36.below
 have h29 := h25.join hr36
 refine RegI.p 5 [(1, .pointer (some ⟨b20, 0, none⟩)), (2, .int .i64 t16), (3, .int .i64 t17), (4, .slice A32 t31.length c33), (5, .bool t35)] ?_
 refine RegI.d ?_
 refine RunsI.g 1 [.c 7, .c 8] ?_
 refine RunsI.r ?_
 obtain ⟨⟨t41, t45, t46, t47, t51, t52, t53⟩, hg40, h⟩ := of_bind h
 dsimp only at h
 refine RegI.o (OpE.call 19 (by kernel_rfl) 7 #[.string (⟨#[114, 111, 109, 32, 51, 101, 10, 114, 111, 109, 32, 51]⟩ : ByteArray)] (by kernel_rfl) ((image_Read_7_ok K _ w27  (⟨#[114, 111, 109, 32, 51, 101, 10, 114, 111, 109, 32, 51]⟩ : ByteArray) h29.old' hg40).mono ?_))
 rintro _ w37 ⟨A42, c43, A48, c49, rfl, hr54⟩
 refine ⟨_, rfl, ?_⟩
 have hb38 := hr54.below
 have h39 := h29.join hr54
 refine RegI.p 4 [(1, .pointer (some ⟨b20, 0, none⟩)), (2, .int .i64 t16), (3, .int .i64 t17), (4, .slice A32 t31.length c33), (5, .bool t35), (20, .agg #[.slice A42 t41.length c43, .int .i64 t45, .int .i64 t46, .slice A48 t47.length c49, .int .u16 t51]), (21, .int .i64 t52), (22, .int .i64 t53)] ?_
 refine RegI.o (OpE.box 6 29 [.slice none 0 0, .int .i64 0, .int .i64 0, .slice none 0 0, .int .u16 0] h39 (by kernel_rfl) (by kernel_rfl) ?_)
 intro w55 b56 h57 hb58 hn59
 refine RegI.o (OpE.storeBox 9 29 b56 0 (.agg #[.slice A42 t41.length c43, .int .i64 t45, .int .i64 t46, .slice A48 t47.length c49, .int .u16 t51]) [.slice A42 t41.length c43, .int .i64 t45, .int .i64 t46, .slice A48 t47.length c49, .int .u16 t51] h57 (by kernel_rfl) (by kernel_rfl) rfl (by kernel_rfl) (by kernel_rfl) (by kernel_rfl) ?_)
 intro w60 h61 hk62
 refine RegI.p 2 [(1, .pointer (some ⟨b20, 0, none⟩)), (2, .int .i64 t16), (3, .int .i64 t17), (4, .slice A32 t31.length c33), (5, .bool t35), (7, .int .i64 t52), (8, .int .i64 t53)] ?_
 refine RegI.d ?_
 refine RunsI.g 1 [.c 9, .c 10] ?_
 refine RunsI.r ?_
 refine RegI.p 3 [(1, .pointer (some ⟨b20, 0, none⟩)), (3, .int .i64 t17), (4, .slice A32 t31.length c33), (5, .bool t35), (7, .int .i64 t52), (8, .int .i64 t53), (25, .bool (t16 == 0))] ?_
 rcases of_cond h with ⟨hc63, h⟩ | ⟨hc63, h⟩
 ·skip
  refine RegI.f 25 true hc63 ?_
  refine RegI.p 4 [(1, .pointer (some ⟨b20, 0, none⟩)), (4, .slice A32 t31.length c33), (5, .bool t35), (7, .int .i64 t52), (8, .int .i64 t53), (29, .bool (t17 == 0))] ?_
  rcases of_cond h with ⟨hc64, h⟩ | ⟨hc64, h⟩
  ·skip
   refine RegI.f 29 true hc64 ?_
   refine RegI.p 2 [(1, .pointer (some ⟨b20, 0, none⟩)), (4, .slice A32 t31.length c33), (5, .bool t35), (7, .int .i64 t52), (8, .int .i64 t53), (29, .bool true), (31, .pointer (some ⟨b20, 0, none⟩))] ?_
   refine RegI.o (OpE.loadBox 32 5 22 b20 0 (.slice A6 t5.length c7) h61 (by kernel_rfl) (by kernel_rfl) rfl (by kernel_rfl) ?_)
   refine RegI.p 4 [(1, .pointer (some ⟨b20, 0, none⟩)), (4, .slice A32 t31.length c33), (5, .bool t35), (7, .int .i64 t52), (8, .int .i64 t53), (36, .bool ((t5.length : Int) == 3))] ?_
   rcases of_cond h with ⟨hc65, h⟩ | ⟨hc65, h⟩
   ·skip
    refine RegI.f 36 true hc65 ?_
    refine RegI.p 2 [(1, .pointer (some ⟨b20, 0, none⟩)), (4, .slice A32 t31.length c33), (5, .bool t35), (7, .int .i64 t52), (8, .int .i64 t53), (36, .bool true), (38, .pointer (some ⟨b20, 1, none⟩))] ?_
    refine RegI.o (OpE.loadBox 39 5 3 b20 1 (.int .i64 t9) h61 (by kernel_rfl) (by kernel_rfl) rfl (by kernel_rfl) ?_)
    refine RegI.p 3 [(1, .pointer (some ⟨b20, 0, none⟩)), (4, .slice A32 t31.length c33), (5, .bool t35), (7, .int .i64 t52), (8, .int .i64 t53), (42, .bool (t9 == 2))] ?_
    rcases of_cond h with ⟨hc66, h⟩ | ⟨hc66, h⟩
    ·skip
     refine RegI.f 42 true hc66 ?_
     refine RegI.p 2 [(1, .pointer (some ⟨b20, 0, none⟩)), (4, .slice A32 t31.length c33), (5, .bool t35), (7, .int .i64 t52), (8, .int .i64 t53), (42, .bool true), (44, .pointer (some ⟨b20, 3, none⟩))] ?_
     refine RegI.o (OpE.loadBox 45 5 24 b20 3 (.slice A12 t11.length c13) h61 (by kernel_rfl) (by kernel_rfl) rfl (by kernel_rfl) ?_)
     refine RegI.p 4 [(1, .pointer (some ⟨b20, 0, none⟩)), (4, .slice A32 t31.length c33), (5, .bool t35), (7, .int .i64 t52), (8, .int .i64 t53), (49, .bool ((t11.length : Int) == 1))] ?_
     rcases of_cond h with ⟨hc67, h⟩ | ⟨hc67, h⟩
     ·skip
      refine RegI.f 49 true hc67 ?_
      refine RegI.p 1 [(1, .pointer (some ⟨b20, 0, none⟩)), (4, .slice A32 t31.length c33), (5, .bool t35), (7, .int .i64 t52), (8, .int .i64 t53), (49, .bool true), (50, .pointer (some ⟨b20, 4, none⟩))] ?_
      refine RegI.o (OpE.loadBox 51 5 27 b20 4 (.int .u16 t15) h61 (by kernel_rfl) (by kernel_rfl) rfl (by kernel_rfl) ?_)
      refine RegI.p 3 [(1, .pointer (some ⟨b20, 0, none⟩)), (4, .slice A32 t31.length c33), (5, .bool t35), (7, .int .i64 t52), (8, .int .i64 t53), (54, .bool (t15 == 64))] ?_
      rcases of_cond h with ⟨hc68, h⟩ | ⟨hc68, h⟩
      ·skip
       refine RegI.f 54 true hc68 ?_
       refine RegI.p 3 [(1, .pointer (some ⟨b20, 0, none⟩)), (4, .slice A32 t31.length c33), (7, .int .i64 t52), (8, .int .i64 t53), (57, .bool t35)] ?_
       rcases of_cond h with ⟨hc69, h⟩ | ⟨hc69, h⟩
       ·skip
        refine RegI.f 57 true hc69 ?_
        refine RegI.p 5 [(1, .pointer (some ⟨b20, 0, none⟩)), (4, .slice A32 t31.length c33), (7, .int .i64 t52), (8, .int .i64 t53), (62, .bool ((t31.length : Int) == 2))] ?_
        rcases of_cond h with ⟨hc70, h⟩ | ⟨hc70, h⟩
        ·skip
         refine RegI.f 62 true hc70 ?_
         refine RegI.p 1 [(1, .pointer (some ⟨b20, 0, none⟩)), (4, .slice A32 t31.length c33), (7, .int .i64 t52), (8, .int .i64 t53), (62, .bool true), (63, .slice A32 t31.length c33)] ?_
         obtain ⟨hc71, h⟩ := of_cond0 h
         refine RegI.o (OpE.idxOwnA 64 6 22 5 1 h61 (by kernel_rfl) rfl (by kernel_rfl) (by kernel_rfl) hc71 ?_)
         refine RegI.o (OpE.loadOwnA 65 6 5 5 1 0 (o := (Int.toNat 1) * 1 + 0) h61 (by kernel_rfl) rfl (by kernel_rfl) (by kernel_rfl) hc71 (fun cs72 hk73 => ?_))
         obtain rfl := hk73
         refine ⟨.int .u8 (rdD t31 1), by kernel_rfl, ?_⟩
         refine RegI.p 3 [(1, .pointer (some ⟨b20, 0, none⟩)), (4, .slice A32 t31.length c33), (7, .int .i64 t52), (8, .int .i64 t53), (68, .bool ((rdD t31 1) == 255))] ?_
         rcases of_cond h with ⟨hc74, h⟩ | ⟨hc74, h⟩
         ·skip
          refine RegI.f 68 true hc74 ?_
          refine RegI.p 1 [(1, .pointer (some ⟨b20, 0, none⟩)), (7, .int .i64 t52), (8, .int .i64 t53), (68, .bool true), (69, .slice A32 t31.length c33)] ?_
          obtain ⟨t79, hg78, h⟩ := of_bind h
          refine RegI.o (OpE.call 70 (by kernel_rfl) 13 #[.slice A32 t31.length c33] (by kernel_rfl) ((image_Digits_13_ok K (fun _ => False) w60  A32 c33 t31 (fun _ hf => hf.elim) (h61.ownSl 6 rfl) ⟨(h61.get 0 rfl).1, fun hf => hf.elim, (h61.get 0 rfl).2.2⟩ ⟨(h61.get 1 rfl).1, fun hf => hf.elim, (h61.get 1 rfl).2.2⟩ ⟨(h61.get 2 rfl).1, fun hf => hf.elim, (h61.get 2 rfl).2.2⟩ hg78).mono ?_))
          rintro _ w75 ⟨rfl, hb76⟩
          refine ⟨_, rfl, ?_⟩
          have h77 := h61.call hb76
          refine RegI.p 3 [(1, .pointer (some ⟨b20, 0, none⟩)), (7, .int .i64 t52), (8, .int .i64 t53), (73, .bool ((ByteArray.toList t79) == (ByteArray.toList (⟨#[48, 97, 102, 102]⟩ : ByteArray))))] ?_
          rcases of_cond h with ⟨hc80, h⟩ | ⟨hc80, h⟩
          ·skip
           refine RegI.f 73 true hc80 ?_
           refine RegI.p 4 [(1, .pointer (some ⟨b20, 0, none⟩)), (8, .int .i64 t53), (77, .bool (t52 == 300))] ?_
           rcases of_cond h with ⟨hc81, h⟩ | ⟨hc81, h⟩
           ·skip
            refine RegI.f 77 true hc81 ?_
            refine RegI.p 4 [(1, .pointer (some ⟨b20, 0, none⟩)), (81, .bool (t53 == 2))] ?_
            rcases of_cond h with ⟨hc82, h⟩ | ⟨hc82, h⟩
            ·skip
             refine RegI.f 81 true hc82 ?_
             refine RegI.o (OpE.loadBox 82 5 29 b20 0 (.agg #[.slice A6 t5.length c7, .int .i64 t9, .int .i64 t10, .slice A12 t11.length c13, .int .u16 t15]) h77 (by kernel_rfl) (by kernel_rfl) rfl (by kernel_rfl) ?_)
             obtain ⟨t87, hg86, h⟩ := of_bind h
             refine RegI.o (OpE.call 83 (by kernel_rfl) 18 #[.agg #[.slice A6 t5.length c7, .int .i64 t9, .int .i64 t10, .slice A12 t11.length c13, .int .u16 t15]] (by kernel_rfl) ((image_Check_18_ok K (fun _ => False) w75  A6 c7 A12 c13 t5 t9 t10 t11 t15 (fun _ hf => hf.elim) (h77.ownSl 3 rfl) (h77.slAny 4 rfl) hg86).mono ?_))
             rintro _ w83 ⟨rfl, hb84⟩
             refine ⟨_, rfl, ?_⟩
             have h85 := h77.call hb84
             refine RegI.p 3 [(1, .pointer (some ⟨b20, 0, none⟩)), (86, .bool (t87 == 0))] ?_
             rcases of_cond h with ⟨hc88, h⟩ | ⟨hc88, h⟩
             ·skip
              refine RegI.f 86 true hc88 ?_
              refine RegI.o (OpE.loadBox 87 5 29 b20 0 (.agg #[.slice A6 t5.length c7, .int .i64 t9, .int .i64 t10, .slice A12 t11.length c13, .int .u16 t15]) h85 (by kernel_rfl) (by kernel_rfl) rfl (by kernel_rfl) ?_)
              obtain ⟨t93, hg92, h⟩ := of_bind h
              refine RegI.o (OpE.call 88 (by kernel_rfl) 16 #[.agg #[.slice A6 t5.length c7, .int .i64 t9, .int .i64 t10, .slice A12 t11.length c13, .int .u16 t15]] (by kernel_rfl) ((image_Show_16_ok K (fun _ => False) w83  A6 c7 A12 c13 t5 t9 t10 t11 t15 (fun _ hf => hf.elim) (h85.ownSl 3 rfl) (h85.slAny 4 rfl) ⟨(h85.get 0 rfl).1, fun hf => hf.elim, (h85.get 0 rfl).2.2⟩ ⟨(h85.get 1 rfl).1, fun hf => hf.elim, (h85.get 1 rfl).2.2⟩ ⟨(h85.get 2 rfl).1, fun hf => hf.elim, (h85.get 2 rfl).2.2⟩ hg92).mono ?_))
              rintro _ w89 ⟨rfl, hb90⟩
              refine ⟨_, rfl, ?_⟩
              have h91 := h85.call hb90
              refine RegI.p 3 [(0, .bool ((ByteArray.toList t93) == (ByteArray.toList (⟨#[98, 97, 110, 107, 115, 32, 50, 10, 98, 97, 110, 107, 32, 48, 10, 112, 99, 32, 48, 48, 52, 48, 10, 114, 111, 109, 32, 51, 101, 48, 55, 55, 54, 10, 114, 97, 109, 32, 49, 48, 48, 48, 48, 32, 48, 53, 10]⟩ : ByteArray))))] ?_
              refine RegI.d ?_
              refine RunsI.t (.bool ((ByteArray.toList t93) == (ByteArray.toList (⟨#[98, 97, 110, 107, 115, 32, 50, 10, 98, 97, 110, 107, 32, 48, 10, 112, 99, 32, 48, 48, 52, 48, 10, 114, 111, 109, 32, 51, 101, 48, 55, 55, 54, 10, 114, 97, 109, 32, 49, 48, 48, 48, 48, 32, 48, 53, 10]⟩ : ByteArray)))) ?_
              obtain rfl := Option.some.inj h
              exact ⟨rfl, h91.below⟩
             ·skip
              refine RegI.f 86 false hc88 ?_
              refine RegI.p 5 [(0, .bool false)] ?_
              refine RegI.d ?_
              refine RunsI.t (.bool false) ?_
              obtain rfl := Option.some.inj h
              exact ⟨rfl, h85.below⟩
            ·skip
             refine RegI.f 81 false hc82 ?_
             refine RegI.p 10 [(0, .bool false)] ?_
             refine RegI.d ?_
             refine RunsI.t (.bool false) ?_
             obtain rfl := Option.some.inj h
             exact ⟨rfl, h77.below⟩
           ·skip
            refine RegI.f 77 false hc81 ?_
            refine RegI.p 14 [(0, .bool false)] ?_
            refine RegI.d ?_
            refine RunsI.t (.bool false) ?_
            obtain rfl := Option.some.inj h
            exact ⟨rfl, h77.below⟩
          ·skip
           refine RegI.f 73 false hc80 ?_
           refine RegI.p 18 [(0, .bool false)] ?_
           refine RegI.d ?_
           refine RunsI.t (.bool false) ?_
           obtain rfl := Option.some.inj h
           exact ⟨rfl, h77.below⟩
         ·skip
          refine RegI.f 68 false hc74 ?_
          refine RegI.p 23 [(0, .bool false)] ?_
          refine RegI.d ?_
          refine RunsI.t (.bool false) ?_
          obtain rfl := Option.some.inj h
          exact ⟨rfl, h61.below⟩
        ·skip
         refine RegI.f 62 false hc70 ?_
         refine RegI.p 29 [(0, .bool false)] ?_
         refine RegI.d ?_
         refine RunsI.t (.bool false) ?_
         obtain rfl := Option.some.inj h
         exact ⟨rfl, h61.below⟩
       ·skip
        refine RegI.f 57 false hc69 ?_
        refine RegI.p 34 [(0, .bool false)] ?_
        refine RegI.d ?_
        refine RunsI.t (.bool false) ?_
        obtain rfl := Option.some.inj h
        exact ⟨rfl, h61.below⟩
      ·skip
       refine RegI.f 54 false hc68 ?_
       refine RegI.p 37 [(0, .bool false)] ?_
       refine RegI.d ?_
       refine RunsI.t (.bool false) ?_
       obtain rfl := Option.some.inj h
       exact ⟨rfl, h61.below⟩
     ·skip
      refine RegI.f 49 false hc67 ?_
      refine RegI.p 42 [(0, .bool false)] ?_
      refine RegI.d ?_
      refine RunsI.t (.bool false) ?_
      obtain rfl := Option.some.inj h
      exact ⟨rfl, h61.below⟩
    ·skip
     refine RegI.f 42 false hc66 ?_
     refine RegI.p 49 [(0, .bool false)] ?_
     refine RegI.d ?_
     refine RunsI.t (.bool false) ?_
     obtain rfl := Option.some.inj h
     exact ⟨rfl, h61.below⟩
   ·skip
    refine RegI.f 36 false hc65 ?_
    refine RegI.p 55 [(0, .bool false)] ?_
    refine RegI.d ?_
    refine RunsI.t (.bool false) ?_
    obtain rfl := Option.some.inj h
    exact ⟨rfl, h61.below⟩
  ·skip
   refine RegI.f 29 false hc64 ?_
   refine RegI.p 62 [(0, .bool false)] ?_
   refine RegI.d ?_
   refine RunsI.t (.bool false) ?_
   obtain rfl := Option.some.inj h
   exact ⟨rfl, h61.below⟩
 ·skip
  refine RegI.f 25 false hc63 ?_
  refine RegI.p 66 [(0, .bool false)] ?_
  refine RegI.d ?_
  refine RunsI.t (.bool false) ?_
  obtain rfl := Option.some.inj h
  exact ⟨rfl, h61.below⟩
end

/-! ### charabanc/charabancref19.Check (function 34) -/
section
def charabancref19_Check_34.post (M0 : Nat → Prop) (w0 : World) (r : Int) : Ending → World → Prop := fun e w => e = .returned (.int .i64 r) ∧ Below w0.heap.size w0 w
def charabancref19_Check_34.l0 (K : Nat) (p0_0 : List Int) (p0_1 : Int) (p0_2 : Int) (p0_3 : List (Int × Int)) : Nat → Int → Option (Lp Unit Unit)
 | 0, _ => none
 | k + 1, t18 => cond (decide (t18 < (p0_3.length : Int))) (cond (inR t18 p0_3.length) (Let (fun (t63 : Bool) => cond t63 (some (Lp.ret ())) (charabancref19_Check_34.l0 K p0_0 p0_1 p0_2 p0_3 k (IntKind.wrap .i64 (t18 + 1)))) (fun j66 => cond (((rdD p0_3 t18).2) == 0) (j66 true) (cond (decide (((rdD p0_3 t18).1) < 0)) (j66 true) (cond (decide (((rdD p0_3 t18).1) > (IntKind.wrap .i64 (65535 + (IntKind.wrap .i64 (16384 * p0_1)))))) (j66 true) (cond (decide (t18 > 0)) (cond (inR (IntKind.wrap .i64 (t18 - 1)) p0_3.length) (j66 (decide (((rdD p0_3 t18).1) ≤ ((rdD p0_3 (IntKind.wrap .i64 (t18 - 1))).1)))) none) (j66 false)))))) none) (some (Lp.go ()))
set_option maxRecDepth 100000 in
theorem charabancref19_Check_34.l0_ok (K : Nat) (M0 : Nat → Prop) (w0 : World) (pA0_0 : Option Addr) (pc0_0 : Nat) (pA0_3 : Option Addr) (pc0_3 : Nat) (p0_0 : List Int) (p0_1 : Int) (p0_2 : Int) (p0_3 : List (Int × Int)) (b17 : Nat) (R : Ending → World → Prop) (x : Lp Unit Unit) (hk0 : ∀ (w1 : World), x = Lp.go () → Holds M0 w0 w1 [] → RunsI F34 [.c 33] [] w1 R) (hk1 : ∀ (w1 : World), x = Lp.ret () → Holds M0 w0 w1 [] → R (.returned (.int .i64 140)) w1) :
  ∀ (k : Nat) (t18 : Int) (w : World), charabancref19_Check_34.l0 K p0_0 p0_1 p0_2 p0_3 k t18 = some x → Holds M0 w0 w [box b17 35 [.slice pA0_0 p0_0.length pc0_0, .int .i64 p0_1, .int .i64 p0_2, .slice pA0_3 p0_3.length pc0_3], sl (Rp.int .u8) (.slice pA0_0 p0_0.length pc0_0) p0_0, sl (Rp.pair (Rp.int .i64) (Rp.int .u8)) (.slice pA0_3 p0_3.length pc0_3) p0_3] → RunsI F34 [.c 15, .lp 15, .blk 0, .c 33] [(1, .pointer (some ⟨b17, 0, none⟩)), (3, .int .i64 t18)] w R := by
 intro k
 induction k with
 | zero => intro t18 w h hH; exact absurd h (by simp [charabancref19_Check_34.l0])
 | succ k ih =>
  intro t18 w h hH
  rw [charabancref19_Check_34.l0.eq_2] at h
  refine RunsI.g 1 [.c 16, .c 21, .lp 15, .blk 0, .c 33] ?_
  refine RunsI.g 1 [.c 17, .c 18, .c 21, .lp 15, .blk 0, .c 33] ?_
  refine RunsI.r ?_
  refine RegI.p 2 [(1, .pointer (some ⟨b17, 0, none⟩)), (3, .int .i64 t18), (31, .int .i64 t18), (32, .pointer (some ⟨b17, 3, none⟩))] ?_
  refine RegI.o (OpE.loadBox 33 0 33 b17 3 (.slice pA0_3 p0_3.length pc0_3) hH (by kernel_rfl) (by kernel_rfl) rfl (by kernel_rfl) ?_)
  refine RegI.p 2 [(1, .pointer (some ⟨b17, 0, none⟩)), (3, .int .i64 t18), (35, .bool (decide (t18 < (p0_3.length : Int))))] ?_
  refine RegI.d ?_
  rcases of_cond h with ⟨hc19, h⟩ | ⟨hc19, h⟩
  ·skip
   refine RunsI.f 35 true hc19 ?_
   refine RunsI.b true 19 ?_
   refine RunsI.g 1 [.c 21, .lp 15, .blk 0, .c 33] ?_
   refine RunsI.g 3 [.c 24, .c 25, .blk 1, .c 32, .lp 15, .blk 0, .c 33] ?_
   refine RunsI.r ?_
   refine RegI.p 1 [(1, .pointer (some ⟨b17, 0, none⟩)), (3, .int .i64 t18), (38, .pointer (some ⟨b17, 3, none⟩))] ?_
   refine RegI.o (OpE.loadBox 39 0 33 b17 3 (.slice pA0_3 p0_3.length pc0_3) hH (by kernel_rfl) (by kernel_rfl) rfl (by kernel_rfl) ?_)
   refine RegI.p 1 [(1, .pointer (some ⟨b17, 0, none⟩)), (3, .int .i64 t18), (39, .slice pA0_3 p0_3.length pc0_3), (40, .int .i64 t18)] ?_
   obtain ⟨hc20, h⟩ := of_cond0 h
   refine RegI.o (OpE.idxSl 41 2 33 t18 hH (by kernel_rfl) rfl (by kernel_rfl) (by kernel_rfl) hc20 ?_)
   intro b21 o22 cs23 hk24 h25
   obtain ⟨_, _, rfl, rfl, rfl⟩ := hk24
   refine RegI.o (OpE.loadCel 42 3 65 b21 o22 0 (.agg #[.int .i64 ((rdD p0_3 t18).1), .int .u8 ((rdD p0_3 t18).2)]) h25 (by kernel_rfl) (by kernel_rfl) rfl (by kernel_rfl) ?_)
   refine RegI.o (OpE.box 4 65 [.int .i64 0, .int .u8 0] h25 (by kernel_rfl) (by kernel_rfl) ?_)
   intro w26 b27 h28 hb29 hn30
   refine RegI.o (OpE.storeBox 4 65 b27 0 (.agg #[.int .i64 ((rdD p0_3 t18).1), .int .u8 ((rdD p0_3 t18).2)]) [.int .i64 ((rdD p0_3 t18).1), .int .u8 ((rdD p0_3 t18).2)] h28 (by kernel_rfl) (by kernel_rfl) rfl (by kernel_rfl) (by kernel_rfl) (by kernel_rfl) ?_)
   intro w31 h32 hk33
   refine RegI.d ?_
   refine RunsI.g 1 [.c 26, .c 27, .blk 1, .c 32, .lp 15, .blk 0, .c 33] ?_
   refine RunsI.any 33 (by kernel_rfl) (by kernel_rfl) (by kernel_rfl) (Kp ([] : List Nat) (World.drew w31)) ?_
   have h35 := h32.drew
   generalize World.drew w31 = w34 at h35 ⊢
   have hS36 := Kp.refl ([] : List Nat) w34
   refine AnyE.pure 0 43 (.pointer (some ⟨b27, 1, none⟩)) (by kernel_rfl) hS36 (fun _ => by kernel_rfl) ?_
   refine AnyE.loadBox 1 44 4 5 b27 1 (.int .u8 ((rdD p0_3 t18).2)) [] h35 rfl (by kernel_rfl) hS36 rfl rfl (by kernel_rfl) (by kernel_rfl) ?_
   refine AnyE.pure 2 45 (.bool (((rdD p0_3 t18).2) == 0)) (by kernel_rfl) hS36 (fun _ => by kernel_rfl) ?_
   refine AnyE.pure 3 46 (.bool (((rdD p0_3 t18).2) == 0)) (by kernel_rfl) hS36 (fun _ => by kernel_rfl) ?_
   obtain ⟨j66, hJ67, h⟩ := of_let h
   have hj68 : ∀ (t63 : Bool) (w65 : World), j66 t63 = some x → Holds M0 w0 w65 [box b17 35 [.slice pA0_0 p0_0.length pc0_0, .int .i64 p0_1, .int .i64 p0_2, .slice pA0_3 p0_3.length pc0_3], sl (Rp.int .u8) (.slice pA0_0 p0_0.length pc0_0) p0_0, sl (Rp.pair (Rp.int .i64) (Rp.int .u8)) (.slice pA0_3 p0_3.length pc0_3) p0_3] → RunsI F34 [.c 27, .blk 1, .c 32, .lp 15, .blk 0, .c 33] [(1, .pointer (some ⟨b17, 0, none⟩)), (3, .int .i64 t18), (75, .bool t63)] w65 R := by
    intro t63 w65 h h64
    rw [hJ67] at h
    clear hJ67
    dsimp only at h
    rcases of_cond h with ⟨hc69, h⟩ | ⟨hc69, h⟩
    ·skip
     refine RunsI.f 75 true hc69 ?_
     refine RunsI.b true 28 ?_
     refine RunsI.g 1 [.c 29, .c 30, .blk 1, .c 32, .lp 15, .blk 0, .c 33] ?_
     refine RunsI.r ?_
     refine RegI.p 1 [(2, .int .i64 140)] ?_
     refine RegI.d ?_
     refine RunsI.t (.int .i64 140) ?_
     exact hk1 w65 (Option.some.inj h).symm (h64.pick [] (by decide))
    ·skip
     refine RunsI.f 75 false hc69 ?_
     refine RunsI.b false 31 ?_
     refine RunsI.g 1 [.blk 1, .c 32, .lp 15, .blk 0, .c 33] ?_
     refine RunsI.g 1 [.c 32, .lp 15, .blk 0, .c 33] ?_
     refine RunsI.r ?_
     refine RegI.p 3 [(1, .pointer (some ⟨b17, 0, none⟩)), (3, .int .i64 (IntKind.wrap .i64 (t18 + 1)))] ?_
     refine RegI.d ?_
     refine RunsI.g 1 [.c 15, .lp 15, .blk 0, .c 33] ?_
     refine RunsI.l [1, 3] [(1, .pointer (some ⟨b17, 0, none⟩)), (3, .int .i64 (IntKind.wrap .i64 (t18 + 1)))] ?_
     exact ih (IntKind.wrap .i64 (t18 + 1)) w65 h (h64.pick [0, 1, 2] (by decide))
   clear hJ67
   rcases of_cond h with ⟨hc38, h⟩ | ⟨hc38, h⟩
   ·skip
    refine AnyE.fix 46 true hc38 (by kernel_rfl) (by kernel_rfl) ?_
    refine AnyE.no 4 47 (by kernel_rfl) hS36 ?_
    refine AnyE.no 5 48 (by kernel_rfl) hS36 ?_
    refine AnyE.no 6 49 (by kernel_rfl) hS36 ?_
    refine AnyE.pure 7 50 (.bool true) (by kernel_rfl) hS36 (fun _ => by kernel_rfl) ?_
    refine AnyE.pure 8 51 (.bool true) (by kernel_rfl) hS36 (fun _ => by kernel_rfl) ?_
    refine AnyE.no 9 52 (by kernel_rfl) hS36 ?_
    refine AnyE.no 10 53 (by kernel_rfl) hS36 ?_
    refine AnyE.no 11 54 (by kernel_rfl) hS36 ?_
    refine AnyE.no 12 55 (by kernel_rfl) hS36 ?_
    refine AnyE.no 13 56 (by kernel_rfl) hS36 ?_
    refine AnyE.no 14 57 (by kernel_rfl) hS36 ?_
    refine AnyE.no 15 58 (by kernel_rfl) hS36 ?_
    refine AnyE.pure 16 59 (.bool true) (by kernel_rfl) hS36 (fun _ => by kernel_rfl) ?_
    refine AnyE.pure 17 60 (.bool true) (by kernel_rfl) hS36 (fun _ => by kernel_rfl) ?_
    refine AnyE.no 18 61 (by kernel_rfl) hS36 ?_
    refine AnyE.no 19 62 (by kernel_rfl) hS36 ?_
    refine AnyE.no 20 63 (by kernel_rfl) hS36 ?_
    refine AnyE.no 21 64 (by kernel_rfl) hS36 ?_
    refine AnyE.no 22 65 (by kernel_rfl) hS36 ?_
    refine AnyE.no 23 66 (by kernel_rfl) hS36 ?_
    refine AnyE.no 24 67 (by kernel_rfl) hS36 ?_
    refine AnyE.no 25 68 (by kernel_rfl) hS36 ?_
    refine AnyE.no 26 69 (by kernel_rfl) hS36 ?_
    refine AnyE.no 27 70 (by kernel_rfl) hS36 ?_
    refine AnyE.no 28 71 (by kernel_rfl) hS36 ?_
    refine AnyE.no 29 72 (by kernel_rfl) hS36 ?_
    refine AnyE.no 30 73 (by kernel_rfl) hS36 ?_
    refine AnyE.no 31 74 (by kernel_rfl) hS36 ?_
    refine AnyE.pure 32 75 (.bool true) (by kernel_rfl) hS36 (fun _ => by kernel_rfl) ?_
    refine AnyE.done (by kernel_rfl) (fun w39 hu40 => ?_)
    have h41 := h35.call hu40
    refine RunsI.l [1, 3, 75] [(1, .pointer (some ⟨b17, 0, none⟩)), (3, .int .i64 t18), (75, .bool true)] ?_
    refine RunsI.l [1, 3, 75] [(1, .pointer (some ⟨b17, 0, none⟩)), (3, .int .i64 t18), (75, .bool true)] ?_
    exact hj68 true w39 h (h41.pick [0, 1, 2] (by decide))
   ·skip
    refine AnyE.fix 46 false hc38 (by kernel_rfl) (by kernel_rfl) ?_
    refine AnyE.pure 4 47 (.pointer (some ⟨b27, 0, none⟩)) (by kernel_rfl) hS36 (fun _ => by kernel_rfl) ?_
    refine AnyE.loadBox 5 48 4 3 b27 0 (.int .i64 ((rdD p0_3 t18).1)) [] h35 rfl (by kernel_rfl) hS36 rfl rfl (by kernel_rfl) (by kernel_rfl) ?_
    refine AnyE.pure 6 49 (.bool (decide (((rdD p0_3 t18).1) < 0))) (by kernel_rfl) hS36 (fun _ => by kernel_rfl) ?_
    refine AnyE.pure 7 50 (.bool (decide (((rdD p0_3 t18).1) < 0))) (by kernel_rfl) hS36 (fun _ => by kernel_rfl) ?_
    refine AnyE.pure 8 51 (.bool (decide (((rdD p0_3 t18).1) < 0))) (by kernel_rfl) hS36 (fun _ => by kernel_rfl) ?_
    rcases of_cond h with ⟨hc42, h⟩ | ⟨hc42, h⟩
    ·skip
     refine AnyE.fix 51 true hc42 (by kernel_rfl) (by kernel_rfl) ?_
     refine AnyE.no 9 52 (by kernel_rfl) hS36 ?_
     refine AnyE.no 10 53 (by kernel_rfl) hS36 ?_
     refine AnyE.no 11 54 (by kernel_rfl) hS36 ?_
     refine AnyE.no 12 55 (by kernel_rfl) hS36 ?_
     refine AnyE.no 13 56 (by kernel_rfl) hS36 ?_
     refine AnyE.no 14 57 (by kernel_rfl) hS36 ?_
     refine AnyE.no 15 58 (by kernel_rfl) hS36 ?_
     refine AnyE.pure 16 59 (.bool true) (by kernel_rfl) hS36 (fun _ => by kernel_rfl) ?_
     refine AnyE.pure 17 60 (.bool true) (by kernel_rfl) hS36 (fun _ => by kernel_rfl) ?_
     refine AnyE.no 18 61 (by kernel_rfl) hS36 ?_
     refine AnyE.no 19 62 (by kernel_rfl) hS36 ?_
     refine AnyE.no 20 63 (by kernel_rfl) hS36 ?_
     refine AnyE.no 21 64 (by kernel_rfl) hS36 ?_
     refine AnyE.no 22 65 (by kernel_rfl) hS36 ?_
     refine AnyE.no 23 66 (by kernel_rfl) hS36 ?_
     refine AnyE.no 24 67 (by kernel_rfl) hS36 ?_
     refine AnyE.no 25 68 (by kernel_rfl) hS36 ?_
     refine AnyE.no 26 69 (by kernel_rfl) hS36 ?_
     refine AnyE.no 27 70 (by kernel_rfl) hS36 ?_
     refine AnyE.no 28 71 (by kernel_rfl) hS36 ?_
     refine AnyE.no 29 72 (by kernel_rfl) hS36 ?_
     refine AnyE.no 30 73 (by kernel_rfl) hS36 ?_
     refine AnyE.no 31 74 (by kernel_rfl) hS36 ?_
     refine AnyE.pure 32 75 (.bool true) (by kernel_rfl) hS36 (fun _ => by kernel_rfl) ?_
     refine AnyE.done (by kernel_rfl) (fun w43 hu44 => ?_)
     have h45 := h35.call hu44
     refine RunsI.l [1, 3, 75] [(1, .pointer (some ⟨b17, 0, none⟩)), (3, .int .i64 t18), (75, .bool true)] ?_
     refine RunsI.l [1, 3, 75] [(1, .pointer (some ⟨b17, 0, none⟩)), (3, .int .i64 t18), (75, .bool true)] ?_
     exact hj68 true w43 h (h45.pick [0, 1, 2] (by decide))
    ·skip
     refine AnyE.fix 51 false hc42 (by kernel_rfl) (by kernel_rfl) ?_
     refine AnyE.pure 9 52 (.pointer (some ⟨b27, 0, none⟩)) (by kernel_rfl) hS36 (fun _ => by kernel_rfl) ?_
     refine AnyE.loadBox 10 53 4 3 b27 0 (.int .i64 ((rdD p0_3 t18).1)) [] h35 rfl (by kernel_rfl) hS36 rfl rfl (by kernel_rfl) (by kernel_rfl) ?_
     refine AnyE.pure 11 54 (.pointer (some ⟨b17, 1, none⟩)) (by kernel_rfl) hS36 (fun _ => by kernel_rfl) ?_
     refine AnyE.loadBox 12 55 0 3 b17 1 (.int .i64 p0_1) [] h35 rfl (by kernel_rfl) hS36 rfl rfl (by kernel_rfl) (by kernel_rfl) ?_
     refine AnyE.pure 13 56 (.int .i64 (IntKind.wrap .i64 (16384 * p0_1))) (by kernel_rfl) hS36 (fun _ => by kernel_rfl) ?_
     refine AnyE.pure 14 57 (.int .i64 (IntKind.wrap .i64 (65535 + (IntKind.wrap .i64 (16384 * p0_1))))) (by kernel_rfl) hS36 (fun _ => by kernel_rfl) ?_
     refine AnyE.pure 15 58 (.bool (decide (((rdD p0_3 t18).1) > (IntKind.wrap .i64 (65535 + (IntKind.wrap .i64 (16384 * p0_1))))))) (by kernel_rfl) hS36 (fun _ => by kernel_rfl) ?_
     refine AnyE.pure 16 59 (.bool (decide (((rdD p0_3 t18).1) > (IntKind.wrap .i64 (65535 + (IntKind.wrap .i64 (16384 * p0_1))))))) (by kernel_rfl) hS36 (fun _ => by kernel_rfl) ?_
     refine AnyE.pure 17 60 (.bool (decide (((rdD p0_3 t18).1) > (IntKind.wrap .i64 (65535 + (IntKind.wrap .i64 (16384 * p0_1))))))) (by kernel_rfl) hS36 (fun _ => by kernel_rfl) ?_
     rcases of_cond h with ⟨hc46, h⟩ | ⟨hc46, h⟩
     ·skip
      refine AnyE.fix 60 true hc46 (by kernel_rfl) (by kernel_rfl) ?_
      refine AnyE.no 18 61 (by kernel_rfl) hS36 ?_
      refine AnyE.no 19 62 (by kernel_rfl) hS36 ?_
      refine AnyE.no 20 63 (by kernel_rfl) hS36 ?_
      refine AnyE.no 21 64 (by kernel_rfl) hS36 ?_
      refine AnyE.no 22 65 (by kernel_rfl) hS36 ?_
      refine AnyE.no 23 66 (by kernel_rfl) hS36 ?_
      refine AnyE.no 24 67 (by kernel_rfl) hS36 ?_
      refine AnyE.no 25 68 (by kernel_rfl) hS36 ?_
      refine AnyE.no 26 69 (by kernel_rfl) hS36 ?_
      refine AnyE.no 27 70 (by kernel_rfl) hS36 ?_
      refine AnyE.no 28 71 (by kernel_rfl) hS36 ?_
      refine AnyE.no 29 72 (by kernel_rfl) hS36 ?_
      refine AnyE.no 30 73 (by kernel_rfl) hS36 ?_
      refine AnyE.no 31 74 (by kernel_rfl) hS36 ?_
      refine AnyE.pure 32 75 (.bool true) (by kernel_rfl) hS36 (fun _ => by kernel_rfl) ?_
      refine AnyE.done (by kernel_rfl) (fun w47 hu48 => ?_)
      have h49 := h35.call hu48
      refine RunsI.l [1, 3, 75] [(1, .pointer (some ⟨b17, 0, none⟩)), (3, .int .i64 t18), (75, .bool true)] ?_
      refine RunsI.l [1, 3, 75] [(1, .pointer (some ⟨b17, 0, none⟩)), (3, .int .i64 t18), (75, .bool true)] ?_
      exact hj68 true w47 h (h49.pick [0, 1, 2] (by decide))
     ·skip
      refine AnyE.fix 60 false hc46 (by kernel_rfl) (by kernel_rfl) ?_
      refine AnyE.pure 18 61 (.int .i64 t18) (by kernel_rfl) hS36 (fun _ => by kernel_rfl) ?_
      refine AnyE.pure 19 62 (.bool (decide (t18 > 0))) (by kernel_rfl) hS36 (fun _ => by kernel_rfl) ?_
      refine AnyE.pure 20 63 (.bool (decide (t18 > 0))) (by kernel_rfl) hS36 (fun _ => by kernel_rfl) ?_
      rcases of_cond h with ⟨hc50, h⟩ | ⟨hc50, h⟩
      ·skip
       refine AnyE.fix 63 true hc50 (by kernel_rfl) (by kernel_rfl) ?_
       refine AnyE.pure 21 64 (.pointer (some ⟨b27, 0, none⟩)) (by kernel_rfl) hS36 (fun _ => by kernel_rfl) ?_
       refine AnyE.loadBox 22 65 4 3 b27 0 (.int .i64 ((rdD p0_3 t18).1)) [] h35 rfl (by kernel_rfl) hS36 rfl rfl (by kernel_rfl) (by kernel_rfl) ?_
       refine AnyE.pure 23 66 (.pointer (some ⟨b17, 3, none⟩)) (by kernel_rfl) hS36 (fun _ => by kernel_rfl) ?_
       refine AnyE.loadBox 24 67 0 33 b17 3 (.slice pA0_3 p0_3.length pc0_3) [] h35 rfl (by kernel_rfl) hS36 rfl rfl (by kernel_rfl) (by kernel_rfl) ?_
       refine AnyE.pure 25 68 (.int .i64 t18) (by kernel_rfl) hS36 (fun _ => by kernel_rfl) ?_
       refine AnyE.pure 26 69 (.int .i64 (IntKind.wrap .i64 (t18 - 1))) (by kernel_rfl) hS36 (fun _ => by kernel_rfl) ?_
       obtain ⟨hc51, h⟩ := of_cond0 h
       refine AnyE.idxSl 27 70 2 33 (IntKind.wrap .i64 (t18 - 1)) h35 (by kernel_rfl) hS36 rfl (by kernel_rfl) (by kernel_rfl) hc51 ?_
       intro b52 o53 cs54 hk55 h56
       obtain ⟨_, _, rfl, rfl, rfl⟩ := hk55
       refine AnyE.pure 28 71 (.pointer (some ⟨b52, o53, none⟩)) (by kernel_rfl) hS36 (fun _ => by kernel_rfl) ?_
       refine AnyE.loadCel 29 72 5 3 b52 o53 0 (.int .i64 ((rdD p0_3 (IntKind.wrap .i64 (t18 - 1))).1)) [] h56 rfl (by kernel_rfl) hS36 rfl rfl (by kernel_rfl) (by kernel_rfl) ?_
       refine AnyE.pure 30 73 (.bool (decide (((rdD p0_3 t18).1) ≤ ((rdD p0_3 (IntKind.wrap .i64 (t18 - 1))).1)))) (by kernel_rfl) hS36 (fun _ => by kernel_rfl) ?_
       refine AnyE.pure 31 74 (.bool (decide (((rdD p0_3 t18).1) ≤ ((rdD p0_3 (IntKind.wrap .i64 (t18 - 1))).1)))) (by kernel_rfl) hS36 (fun _ => by kernel_rfl) ?_
       refine AnyE.pure 32 75 (.bool (decide (((rdD p0_3 t18).1) ≤ ((rdD p0_3 (IntKind.wrap .i64 (t18 - 1))).1)))) (by kernel_rfl) hS36 (fun _ => by kernel_rfl) ?_
       refine AnyE.done (by kernel_rfl) (fun w57 hu58 => ?_)
       have h59 := h56.call hu58
       refine RunsI.l [1, 3, 75] [(1, .pointer (some ⟨b17, 0, none⟩)), (3, .int .i64 t18), (75, .bool (decide (((rdD p0_3 t18).1) ≤ ((rdD p0_3 (IntKind.wrap .i64 (t18 - 1))).1))))] ?_
       refine RunsI.l [1, 3, 75] [(1, .pointer (some ⟨b17, 0, none⟩)), (3, .int .i64 t18), (75, .bool (decide (((rdD p0_3 t18).1) ≤ ((rdD p0_3 (IntKind.wrap .i64 (t18 - 1))).1))))] ?_
       exact hj68 (decide (((rdD p0_3 t18).1) ≤ ((rdD p0_3 (IntKind.wrap .i64 (t18 - 1))).1))) w57 h (h59.pick [0, 1, 2] (by decide))
      ·skip
       refine AnyE.fix 63 false hc50 (by kernel_rfl) (by kernel_rfl) ?_
       refine AnyE.no 21 64 (by kernel_rfl) hS36 ?_
       refine AnyE.no 22 65 (by kernel_rfl) hS36 ?_
       refine AnyE.no 23 66 (by kernel_rfl) hS36 ?_
       refine AnyE.no 24 67 (by kernel_rfl) hS36 ?_
       refine AnyE.no 25 68 (by kernel_rfl) hS36 ?_
       refine AnyE.no 26 69 (by kernel_rfl) hS36 ?_
       refine AnyE.no 27 70 (by kernel_rfl) hS36 ?_
       refine AnyE.no 28 71 (by kernel_rfl) hS36 ?_
       refine AnyE.no 29 72 (by kernel_rfl) hS36 ?_
       refine AnyE.no 30 73 (by kernel_rfl) hS36 ?_
       refine AnyE.pure 31 74 (.bool false) (by kernel_rfl) hS36 (fun _ => by kernel_rfl) ?_
       refine AnyE.pure 32 75 (.bool false) (by kernel_rfl) hS36 (fun _ => by kernel_rfl) ?_
       refine AnyE.done (by kernel_rfl) (fun w60 hu61 => ?_)
       have h62 := h35.call hu61
       refine RunsI.l [1, 3, 75] [(1, .pointer (some ⟨b17, 0, none⟩)), (3, .int .i64 t18), (75, .bool false)] ?_
       refine RunsI.l [1, 3, 75] [(1, .pointer (some ⟨b17, 0, none⟩)), (3, .int .i64 t18), (75, .bool false)] ?_
       exact hj68 false w60 h (h62.pick [0, 1, 2] (by decide))
  ·skip
   refine RunsI.f 35 false hc19 ?_
   refine RunsI.b false 20 ?_
   refine RunsI.g 1 [.c 33] ?_
   refine RunsI.l [] [] ?_
   exact hk0 w (Option.some.inj h).symm (hH.pick [] (by decide))
def charabancref19_Check_34.f (K : Nat) (p0_0 : List Int) (p0_1 : Int) (p0_2 : Int) (p0_3 : List (Int × Int)) : Option Int := Let (fun (t10 : Bool) => cond t10 (some 140) ((charabancref19_Check_34.l0 K p0_0 p0_1 p0_2 p0_3 K 0).bind (fun x70 => Lp.elim x70 (fun _ => some 140) (fun _ => some 0)))) (fun j13 => cond (decide ((p0_0.length : Int) > 32768)) (j13 true) (cond (decide (p0_1 < 1)) (j13 true) (cond (decide (p0_1 > 8)) (j13 true) (cond (decide (p0_2 < 0)) (j13 true) (j13 (decide (p0_2 ≥ p0_1)))))))
set_option maxRecDepth 100000 in
theorem charabancref19_Check_34_ok (K : Nat) (M0 : Nat → Prop) (w0 : World) (pA0_0 : Option Addr) (pc0_0 : Nat) (pA0_3 : Option Addr) (pc0_3 : Nat) (p0_0 : List Int) (p0_1 : Int) (p0_2 : Int) (p0_3 : List (Int × Int)) (ho : ∀ b, M0 b → b < w0.heap.size) (hs0_0 : Sl (Rp.int .u8) w0 M0 (.slice pA0_0 p0_0.length pc0_0) p0_0) (hs0_3 : Sl (Rp.pair (Rp.int .i64) (Rp.int .u8)) w0 M0 (.slice pA0_3 p0_3.length pc0_3) p0_3) {r : Int} (h : charabancref19_Check_34.f K p0_0 p0_1 p0_2 p0_3 = some r) :
  Calls Tryd.prog 34 #[.agg #[.slice pA0_0 p0_0.length pc0_0, .int .i64 p0_1, .int .i64 p0_2, .slice pA0_3 p0_3.length pc0_3]] w0 (charabancref19_Check_34.post M0 w0 r) := by
 unfold charabancref19_Check_34.f at h
 have h0 : Holds M0 w0 w0 [] := Holds.start ho
 have h00_0 := h0.addSl (Rp.int .u8) (.slice pA0_0 p0_0.length pc0_0) p0_0 (hs0_0.mono (fun _ _ hm => hm.elim id (fun hm => absurd hm (by simp [mines, sl]))))
 have h00_3 := h00_0.addSl (Rp.pair (Rp.int .i64) (Rp.int .u8)) (.slice pA0_3 p0_3.length pc0_3) p0_3 (hs0_3.mono (fun _ _ hm => hm.elim id (fun hm => absurd hm (by simp [mines, sl]))))
 have h0 : Holds M0 w0 w0 [sl (Rp.int .u8) (.slice pA0_0 p0_0.length pc0_0) p0_0, sl (Rp.pair (Rp.int .i64) (Rp.int .u8)) (.slice pA0_3 p0_3.length pc0_3) p0_3] := h00_3
 refine calls_of F34 rfl [.agg #[.slice pA0_0 p0_0.length pc0_0, .int .i64 p0_1, .int .i64 p0_2, .slice pA0_3 p0_3.length pc0_3]] (by kernel_rfl) ?_
 refine RunsI.g 1 [.c 1, .c 2] ?_
 refine RunsI.r ?_
 refine RegI.o (OpE.box 1 35 [.slice pA0_0 p0_0.length pc0_0, .int .i64 p0_1, .int .i64 p0_2, .slice pA0_3 p0_3.length pc0_3] h0 (by kernel_rfl) (by kernel_rfl) ?_)
 intro w1 b2 h3 hb4 hn5
 refine RegI.p 1 [(1, .pointer (some ⟨b2, 0, none⟩))] ?_
 refine RegI.d ?_
 refine RunsI.g 2 [.c 4, .c 5, .c 10] ?_
 refine RunsI.r ?_
 refine RegI.p 1 [(1, .pointer (some ⟨b2, 0, none⟩)), (5, .pointer (some ⟨b2, 0, none⟩))] ?_
 refine RegI.o (OpE.loadBox 6 2 22 b2 0 (.slice pA0_0 p0_0.length pc0_0) h3 (by kernel_rfl) (by kernel_rfl) rfl (by kernel_rfl) ?_)
 refine RegI.p 3 [(1, .pointer (some ⟨b2, 0, none⟩)), (9, .bool (decide ((p0_0.length : Int) > 32768)))] ?_
 obtain ⟨j13, hJ14, h⟩ := of_let h
 have hj15 : ∀ (t10 : Bool) (w12 : World), j13 t10 = some r → Holds M0 w0 w12 [box b2 35 [.slice pA0_0 p0_0.length pc0_0, .int .i64 p0_1, .int .i64 p0_2, .slice pA0_3 p0_3.length pc0_3], sl (Rp.int .u8) (.slice pA0_0 p0_0.length pc0_0) p0_0, sl (Rp.pair (Rp.int .i64) (Rp.int .u8)) (.slice pA0_3 p0_3.length pc0_3) p0_3] → RegI F34 4 [.c 5, .c 10] 26 [(1, .pointer (some ⟨b2, 0, none⟩)), (30, .bool t10)] w12 (charabancref19_Check_34.post M0 w0 r) := by
  intro t10 w12 h h11
  rw [hJ14] at h
  clear hJ14
  dsimp only at h
  refine RegI.d ?_
  rcases of_cond h with ⟨hc16, h⟩ | ⟨hc16, h⟩
  ·skip
   refine RunsI.f 30 true hc16 ?_
   refine RunsI.b true 6 ?_
   refine RunsI.g 1 [.c 7, .c 8, .c 10] ?_
   refine RunsI.r ?_
   refine RegI.p 1 [(2, .int .i64 140)] ?_
   refine RegI.d ?_
   refine RunsI.t (.int .i64 140) ?_
   obtain rfl := Option.some.inj h
   exact ⟨rfl, h11.below⟩
  ·skip
   refine RunsI.f 30 false hc16 ?_
   refine RunsI.b false 9 ?_
   refine RunsI.g 1 [.c 10] ?_
   refine RunsI.g 2 [.c 12, .c 13, .c 33] ?_
   refine RunsI.r ?_
   refine RegI.p 1 [(1, .pointer (some ⟨b2, 0, none⟩)), (3, .int .i64 0)] ?_
   refine RegI.d ?_
   refine RunsI.g 2 [.c 15, .lp 15, .blk 0, .c 33] ?_
   obtain ⟨x70, hx71, h⟩ := of_bind h
   refine RunsI.l [1, 3] [(1, .pointer (some ⟨b2, 0, none⟩)), (3, .int .i64 0)] ?_
   refine charabancref19_Check_34.l0_ok K M0 w0 pA0_0 pc0_0 pA0_3 pc0_3 p0_0 p0_1 p0_2 p0_3 b2 _ x70 ?_ ?_ K 0 w12 hx71 (h11.pick [0, 1, 2] (by decide))
   ·intro w73 hq76 h72
    (try rw [hq76] at h)
    dsimp only [Lp.elim] at h
    refine RunsI.g 1 [.c 34, .c 35] ?_
    refine RunsI.r ?_
    refine RegI.p 1 [(2, .int .i64 0)] ?_
    refine RegI.d ?_
    refine RunsI.t (.int .i64 0) ?_
    obtain rfl := Option.some.inj h
    exact ⟨rfl, h72.below⟩
   ·intro w75 hq77 h74
    (try rw [hq77] at h)
    dsimp only [Lp.elim] at h
    obtain rfl := Option.some.inj h
    exact ⟨rfl, h74.below⟩
 clear hJ14
 rcases of_cond h with ⟨hc6, h⟩ | ⟨hc6, h⟩
 ·skip
  refine RegI.f 9 true hc6 ?_
  refine RegI.p 21 [(1, .pointer (some ⟨b2, 0, none⟩)), (30, .bool true)] ?_
  refine RegI.l [1, 30] [(1, .pointer (some ⟨b2, 0, none⟩)), (30, .bool true)] ?_
  exact hj15 true w1 h (h3.pick [2, 0, 1] (by decide))
 ·skip
  refine RegI.f 9 false hc6 ?_
  refine RegI.p 1 [(1, .pointer (some ⟨b2, 0, none⟩)), (9, .bool false), (10, .pointer (some ⟨b2, 1, none⟩))] ?_
  refine RegI.o (OpE.loadBox 11 2 3 b2 1 (.int .i64 p0_1) h3 (by kernel_rfl) (by kernel_rfl) rfl (by kernel_rfl) ?_)
  refine RegI.p 3 [(1, .pointer (some ⟨b2, 0, none⟩)), (14, .bool (decide (p0_1 < 1)))] ?_
  rcases of_cond h with ⟨hc7, h⟩ | ⟨hc7, h⟩
  ·skip
   refine RegI.f 14 true hc7 ?_
   refine RegI.p 16 [(1, .pointer (some ⟨b2, 0, none⟩)), (30, .bool true)] ?_
   refine RegI.l [1, 30] [(1, .pointer (some ⟨b2, 0, none⟩)), (30, .bool true)] ?_
   exact hj15 true w1 h (h3.pick [2, 0, 1] (by decide))
  ·skip
   refine RegI.f 14 false hc7 ?_
   refine RegI.p 1 [(1, .pointer (some ⟨b2, 0, none⟩)), (14, .bool false), (15, .pointer (some ⟨b2, 1, none⟩))] ?_
   refine RegI.o (OpE.loadBox 16 2 3 b2 1 (.int .i64 p0_1) h3 (by kernel_rfl) (by kernel_rfl) rfl (by kernel_rfl) ?_)
   refine RegI.p 3 [(1, .pointer (some ⟨b2, 0, none⟩)), (19, .bool (decide (p0_1 > 8)))] ?_
   rcases of_cond h with ⟨hc8, h⟩ | ⟨hc8, h⟩
   ·skip
    refine RegI.f 19 true hc8 ?_
    refine RegI.p 11 [(1, .pointer (some ⟨b2, 0, none⟩)), (30, .bool true)] ?_
    refine RegI.l [1, 30] [(1, .pointer (some ⟨b2, 0, none⟩)), (30, .bool true)] ?_
    exact hj15 true w1 h (h3.pick [2, 0, 1] (by decide))
   ·skip
    refine RegI.f 19 false hc8 ?_
    refine RegI.p 1 [(1, .pointer (some ⟨b2, 0, none⟩)), (19, .bool false), (20, .pointer (some ⟨b2, 2, none⟩))] ?_
    refine RegI.o (OpE.loadBox 21 2 3 b2 2 (.int .i64 p0_2) h3 (by kernel_rfl) (by kernel_rfl) rfl (by kernel_rfl) ?_)
    refine RegI.p 3 [(1, .pointer (some ⟨b2, 0, none⟩)), (24, .bool (decide (p0_2 < 0)))] ?_
    rcases of_cond h with ⟨hc9, h⟩ | ⟨hc9, h⟩
    ·skip
     refine RegI.f 24 true hc9 ?_
     refine RegI.p 6 [(1, .pointer (some ⟨b2, 0, none⟩)), (30, .bool true)] ?_
     refine RegI.l [1, 30] [(1, .pointer (some ⟨b2, 0, none⟩)), (30, .bool true)] ?_
     exact hj15 true w1 h (h3.pick [2, 0, 1] (by decide))
    ·skip
     refine RegI.f 24 false hc9 ?_
     refine RegI.p 1 [(1, .pointer (some ⟨b2, 0, none⟩)), (24, .bool false), (25, .pointer (some ⟨b2, 2, none⟩))] ?_
     refine RegI.o (OpE.loadBox 26 2 3 b2 2 (.int .i64 p0_2) h3 (by kernel_rfl) (by kernel_rfl) rfl (by kernel_rfl) ?_)
     refine RegI.p 1 [(1, .pointer (some ⟨b2, 0, none⟩)), (24, .bool false), (26, .int .i64 p0_2), (27, .pointer (some ⟨b2, 1, none⟩))] ?_
     refine RegI.o (OpE.loadBox 28 2 3 b2 1 (.int .i64 p0_1) h3 (by kernel_rfl) (by kernel_rfl) rfl (by kernel_rfl) ?_)
     refine RegI.p 2 [(1, .pointer (some ⟨b2, 0, none⟩)), (30, .bool (decide (p0_2 ≥ p0_1)))] ?_
     refine RegI.l [1, 30] [(1, .pointer (some ⟨b2, 0, none⟩)), (30, .bool (decide (p0_2 ≥ p0_1)))] ?_
     exact hj15 (decide (p0_2 ≥ p0_1)) w1 h (h3.pick [2, 0, 1] (by decide))
end

/-! ### charabanc/charabancref30.Check (function 19) -/
section
def charabancref30_Check_19.post (M0 : Nat → Prop) (w0 : World) (r : Int) : Ending → World → Prop := fun e w => e = .returned (.int .i64 r) ∧ Below w0.heap.size w0 w
def charabancref30_Check_19.f (K : Nat) (p0_0_0 : List Int) (p0_0_1 : Int) (p0_0_2 : Int) (p0_0_3 : List (Int × Int)) (p0_1 : Int) : Option Int := (charabancref19_Check_34.f K p0_0_0 p0_0_1 p0_0_2 p0_0_3).bind fun t10 => some t10
set_option maxRecDepth 100000 in
theorem charabancref30_Check_19_ok (K : Nat) (M0 : Nat → Prop) (w0 : World) (pA0_0_0 : Option Addr) (pc0_0_0 : Nat) (pA0_0_3 : Option Addr) (pc0_0_3 : Nat) (p0_0_0 : List Int) (p0_0_1 : Int) (p0_0_2 : Int) (p0_0_3 : List (Int × Int)) (p0_1 : Int) (ho : ∀ b, M0 b → b < w0.heap.size) (hs0_0_0 : Sl (Rp.int .u8) w0 M0 (.slice pA0_0_0 p0_0_0.length pc0_0_0) p0_0_0) (hs0_0_3 : Sl (Rp.pair (Rp.int .i64) (Rp.int .u8)) w0 M0 (.slice pA0_0_3 p0_0_3.length pc0_0_3) p0_0_3) {r : Int} (h : charabancref30_Check_19.f K p0_0_0 p0_0_1 p0_0_2 p0_0_3 p0_1 = some r) :
  Calls Tryd.prog 19 #[.agg #[.slice pA0_0_0 p0_0_0.length pc0_0_0, .int .i64 p0_0_1, .int .i64 p0_0_2, .slice pA0_0_3 p0_0_3.length pc0_0_3, .int .u16 p0_1]] w0 (charabancref30_Check_19.post M0 w0 r) := by
 unfold charabancref30_Check_19.f at h
 have h0 : Holds M0 w0 w0 [] := Holds.start ho
 have h00_0_0 := h0.addSl (Rp.int .u8) (.slice pA0_0_0 p0_0_0.length pc0_0_0) p0_0_0 (hs0_0_0.mono (fun _ _ hm => hm.elim id (fun hm => absurd hm (by simp [mines, sl]))))
 have h00_0_3 := h00_0_0.addSl (Rp.pair (Rp.int .i64) (Rp.int .u8)) (.slice pA0_0_3 p0_0_3.length pc0_0_3) p0_0_3 (hs0_0_3.mono (fun _ _ hm => hm.elim id (fun hm => absurd hm (by simp [mines, sl]))))
 have h0 : Holds M0 w0 w0 [sl (Rp.int .u8) (.slice pA0_0_0 p0_0_0.length pc0_0_0) p0_0_0, sl (Rp.pair (Rp.int .i64) (Rp.int .u8)) (.slice pA0_0_3 p0_0_3.length pc0_0_3) p0_0_3] := h00_0_3
 refine calls_of F19 rfl [.agg #[.slice pA0_0_0 p0_0_0.length pc0_0_0, .int .i64 p0_0_1, .int .i64 p0_0_2, .slice pA0_0_3 p0_0_3.length pc0_0_3, .int .u16 p0_1]] (by kernel_rfl) ?_
 refine RunsI.g 1 [.c 1, .c 2] ?_
 refine RunsI.r ?_
 refine RegI.o (OpE.box 1 37 [.slice pA0_0_0 p0_0_0.length pc0_0_0, .int .i64 p0_0_1, .int .i64 p0_0_2, .slice pA0_0_3 p0_0_3.length pc0_0_3, .int .u16 p0_1] h0 (by kernel_rfl) (by kernel_rfl) ?_)
 intro w1 b2 h3 hb4 hn5
 refine RegI.p 1 [(1, .pointer (some ⟨b2, 0, none⟩))] ?_
 refine RegI.d ?_
 refine RunsI.g 1 [.c 3, .c 4] ?_
 refine RunsI.r ?_
 refine RegI.p 1 [(3, .pointer (some ⟨b2, 0, none⟩))] ?_
 refine RegI.o (OpE.loadBox 4 2 35 b2 0 (.agg #[.slice pA0_0_0 p0_0_0.length pc0_0_0, .int .i64 p0_0_1, .int .i64 p0_0_2, .slice pA0_0_3 p0_0_3.length pc0_0_3]) h3 (by kernel_rfl) (by kernel_rfl) rfl (by kernel_rfl) ?_)
 obtain ⟨t10, hg9, h⟩ := of_bind h
 refine RegI.o (OpE.call 5 (by kernel_rfl) 34 #[.agg #[.slice pA0_0_0 p0_0_0.length pc0_0_0, .int .i64 p0_0_1, .int .i64 p0_0_2, .slice pA0_0_3 p0_0_3.length pc0_0_3]] (by kernel_rfl) ((charabancref19_Check_34_ok K _ w1  pA0_0_0 pc0_0_0 pA0_0_3 pc0_0_3 p0_0_0 p0_0_1 p0_0_2 p0_0_3 h3.old' (h3.get 0 rfl) (h3.get 1 rfl) hg9).mono ?_))
 rintro _ w6 ⟨rfl, hb7⟩
 refine ⟨_, rfl, ?_⟩
 have h8 := h3.call hb7
 refine RegI.p 1 [(2, .int .i64 t10)] ?_
 refine RegI.d ?_
 refine RunsI.t (.int .i64 t10) ?_
 obtain rfl := Option.some.inj h
 exact ⟨rfl, h8.below⟩
end

/-! ### charabanc/charabancref30.digit (function 50) -/
section
def charabancref30_digit_50.post (M0 : Nat → Prop) (w0 : World) (r : Int) : Ending → World → Prop := fun e w => e = .returned (.int .i64 r) ∧ Below w0.heap.size w0 w
def charabancref30_digit_50.f (K : Nat) (p0 : Int) : Option Int := Let (fun (t2 : Bool) => cond t2 (some (IntKind.wrap .i64 ((IntKind.wrap .i64 p0) - 48))) (Let (fun (t10 : Bool) => cond t10 (some (IntKind.wrap .i64 ((IntKind.wrap .i64 ((IntKind.wrap .i64 p0) - 97)) + 10))) (some (-1))) (fun j13 => cond (decide (p0 ≥ 97)) (j13 (decide (p0 ≤ 102))) (j13 false)))) (fun j5 => cond (decide (p0 ≥ 48)) (j5 (decide (p0 ≤ 57))) (j5 false))
set_option maxRecDepth 100000 in
theorem charabancref30_digit_50_ok (K : Nat) (M0 : Nat → Prop) (w0 : World) (p0 : Int) (ho : ∀ b, M0 b → b < w0.heap.size) {r : Int} (h : charabancref30_digit_50.f K p0 = some r) :
  Calls Tryd.prog 50 #[.int .u8 p0] w0 (charabancref30_digit_50.post M0 w0 r) := by
 unfold charabancref30_digit_50.f at h
 have h0 : Holds M0 w0 w0 [] := Holds.start ho
 have h0 : Holds M0 w0 w0 [] := h0
 refine calls_of F50 rfl [.int .u8 p0] (by kernel_rfl) ?_
 refine RunsI.g 1 [.c 1, .c 2] ?_
 refine RunsI.r ?_
 refine RegI.p 1 [(0, .int .u8 p0)] ?_
 refine RegI.d ?_
 refine RunsI.g 2 [.c 4, .c 5, .c 10] ?_
 refine RunsI.r ?_
 refine RegI.p 3 [(0, .int .u8 p0), (5, .bool (decide (p0 ≥ 48)))] ?_
 obtain ⟨j5, hJ6, h⟩ := of_let h
 have hj7 : ∀ (t2 : Bool) (w4 : World), j5 t2 = some r → Holds M0 w0 w4 [] → RegI F50 4 [.c 5, .c 10] 6 [(0, .int .u8 p0), (8, .bool t2)] w4 (charabancref30_digit_50.post M0 w0 r) := by
  intro t2 w4 h h3
  rw [hJ6] at h
  clear hJ6
  dsimp only at h
  refine RegI.d ?_
  rcases of_cond h with ⟨hc8, h⟩ | ⟨hc8, h⟩
  ·skip
   refine RunsI.f 8 true hc8 ?_
   refine RunsI.b true 6 ?_
   refine RunsI.g 1 [.c 7, .c 8, .c 10] ?_
   refine RunsI.r ?_
   refine RegI.p 4 [(2, .int .i64 (IntKind.wrap .i64 ((IntKind.wrap .i64 p0) - 48)))] ?_
   refine RegI.d ?_
   refine RunsI.t (.int .i64 (IntKind.wrap .i64 ((IntKind.wrap .i64 p0) - 48))) ?_
   obtain rfl := Option.some.inj h
   exact ⟨rfl, h3.below⟩
  ·skip
   refine RunsI.f 8 false hc8 ?_
   refine RunsI.b false 9 ?_
   refine RunsI.g 1 [.c 10] ?_
   refine RunsI.g 2 [.c 12, .c 13, .c 18] ?_
   refine RunsI.r ?_
   refine RegI.p 3 [(0, .int .u8 p0), (14, .bool (decide (p0 ≥ 97)))] ?_
   obtain ⟨j13, hJ14, h⟩ := of_let h
   have hj15 : ∀ (t10 : Bool) (w12 : World), j13 t10 = some r → Holds M0 w0 w12 [] → RegI F50 12 [.c 13, .c 18] 6 [(0, .int .u8 p0), (17, .bool t10)] w12 (charabancref30_digit_50.post M0 w0 r) := by
    intro t10 w12 h h11
    rw [hJ14] at h
    clear hJ14
    dsimp only at h
    refine RegI.d ?_
    rcases of_cond h with ⟨hc16, h⟩ | ⟨hc16, h⟩
    ·skip
     refine RunsI.f 17 true hc16 ?_
     refine RunsI.b true 14 ?_
     refine RunsI.g 1 [.c 15, .c 16, .c 18] ?_
     refine RunsI.r ?_
     refine RegI.p 5 [(2, .int .i64 (IntKind.wrap .i64 ((IntKind.wrap .i64 ((IntKind.wrap .i64 p0) - 97)) + 10)))] ?_
     refine RegI.d ?_
     refine RunsI.t (.int .i64 (IntKind.wrap .i64 ((IntKind.wrap .i64 ((IntKind.wrap .i64 p0) - 97)) + 10))) ?_
     obtain rfl := Option.some.inj h
     exact ⟨rfl, h11.below⟩
    ·skip
     refine RunsI.f 17 false hc16 ?_
     refine RunsI.b false 17 ?_
     refine RunsI.g 1 [.c 18] ?_
     refine RunsI.g 1 [.c 19, .c 20] ?_
     refine RunsI.r ?_
     refine RegI.p 1 [(2, .int .i64 (-1))] ?_
     refine RegI.d ?_
     refine RunsI.t (.int .i64 (-1)) ?_
     obtain rfl := Option.some.inj h
     exact ⟨rfl, h11.below⟩
   clear hJ14
   rcases of_cond h with ⟨hc9, h⟩ | ⟨hc9, h⟩
   ·skip
    refine RegI.f 14 true hc9 ?_
    refine RegI.p 3 [(0, .int .u8 p0), (17, .bool (decide (p0 ≤ 102)))] ?_
    refine RegI.l [0, 17] [(0, .int .u8 p0), (17, .bool (decide (p0 ≤ 102)))] ?_
    exact hj15 (decide (p0 ≤ 102)) w4 h (h3.pick [] (by decide))
   ·skip
    refine RegI.f 14 false hc9 ?_
    refine RegI.p 3 [(0, .int .u8 p0), (17, .bool false)] ?_
    refine RegI.l [0, 17] [(0, .int .u8 p0), (17, .bool false)] ?_
    exact hj15 false w4 h (h3.pick [] (by decide))
 clear hJ6
 rcases of_cond h with ⟨hc1, h⟩ | ⟨hc1, h⟩
 ·skip
  refine RegI.f 5 true hc1 ?_
  refine RegI.p 3 [(0, .int .u8 p0), (8, .bool (decide (p0 ≤ 57)))] ?_
  refine RegI.l [0, 8] [(0, .int .u8 p0), (8, .bool (decide (p0 ≤ 57)))] ?_
  exact hj7 (decide (p0 ≤ 57)) w0 h (h0.pick [] (by decide))
 ·skip
  refine RegI.f 5 false hc1 ?_
  refine RegI.p 3 [(0, .int .u8 p0), (8, .bool false)] ?_
  refine RegI.l [0, 8] [(0, .int .u8 p0), (8, .bool false)] ?_
  exact hj7 false w0 h (h0.pick [] (by decide))
end

/-! ### charabanc/charabancref30.number (function 25) -/
section
def charabancref30_number_25.post (M0 : Nat → Prop) (w0 : World) (r : Int × Bool) : Ending → World → Prop := fun e w => e = .returned (.tuple #[.int .i64 r.1, .bool r.2]) ∧ Below w0.heap.size w0 w
def charabancref30_number_25.l0 (K : Nat) (p0 : ByteArray) (p1 : Int) : Nat → Int → Int → Option (Lp Unit Int)
 | 0, _, _ => none
 | k + 1, t2, t3 => cond (decide (t3 < (p0.size : Int))) (cond (inR t3 p0.size) ((charabancref30_digit_50.f K (btD p0 t3)).bind fun t10 => cond (decide (t10 < 0)) (some (Lp.ret ())) (charabancref30_number_25.l0 K p0 p1 k (IntKind.wrap .i64 ((IntKind.wrap .i64 (16 * t2)) + t10)) (IntKind.wrap .i64 (t3 + 1)))) none) (some (Lp.go t2))
set_option maxRecDepth 100000 in
theorem charabancref30_number_25.l0_ok (K : Nat) (M0 : Nat → Prop) (w0 : World) (p0 : ByteArray) (p1 : Int) (R : Ending → World → Prop) (x : Lp Unit Int) (hk0 : ∀ (t12 : Int) (w1 : World), x = Lp.go t12 → Holds M0 w0 w1 [] → RunsI F25 [.c 37] [(6, .int .i64 t12)] w1 R) (hk1 : ∀ (w1 : World), x = Lp.ret () → Holds M0 w0 w1 [] → R (.returned (.tuple #[.int .i64 0, .bool false])) w1) :
  ∀ (k : Nat) (t2 : Int) (t3 : Int) (w : World), charabancref30_number_25.l0 K p0 p1 k t2 t3 = some x → Holds M0 w0 w [] → RunsI F25 [.c 17, .lp 17, .blk 0, .c 37] [(0, .string p0), (6, .int .i64 t2), (7, .int .i64 t3)] w R := by
 intro k
 induction k with
 | zero => intro t2 t3 w h hH; exact absurd h (by simp [charabancref30_number_25.l0])
 | succ k ih =>
  intro t2 t3 w h hH
  rw [charabancref30_number_25.l0.eq_2] at h
  refine RunsI.g 1 [.c 18, .c 23, .lp 17, .blk 0, .c 37] ?_
  refine RunsI.g 1 [.c 19, .c 20, .c 23, .lp 17, .blk 0, .c 37] ?_
  refine RunsI.r ?_
  refine RegI.p 4 [(0, .string p0), (6, .int .i64 t2), (7, .int .i64 t3), (16, .bool (decide (t3 < (p0.size : Int))))] ?_
  refine RegI.d ?_
  rcases of_cond h with ⟨hc4, h⟩ | ⟨hc4, h⟩
  ·skip
   refine RunsI.f 16 true hc4 ?_
   refine RunsI.b true 21 ?_
   refine RunsI.g 1 [.c 23, .lp 17, .blk 0, .c 37] ?_
   refine RunsI.g 3 [.c 26, .c 27, .blk 1, .c 36, .lp 17, .blk 0, .c 37] ?_
   refine RunsI.r ?_
   refine RegI.p 2 [(0, .string p0), (6, .int .i64 t2), (7, .int .i64 t3), (19, .string p0), (20, .int .i64 t3)] ?_
   obtain ⟨hc5, h⟩ := of_cond0 h
   refine RegI.o (OpE.run 21 (by kernel_rfl) (run_strIdx (T0 := 9) (s := p0) (j := t3) (by kernel_rfl) (by kernel_rfl) hc5) ?_)
   obtain ⟨t10, hg9, h⟩ := of_bind h
   refine RegI.o (OpE.call 22 (by kernel_rfl) 50 #[.int .u8 (btD p0 t3)] (by kernel_rfl) ((charabancref30_digit_50_ok K _ w  (btD p0 t3) hH.old' hg9).mono ?_))
   rintro _ w6 ⟨rfl, hb7⟩
   refine ⟨_, rfl, ?_⟩
   have h8 := hH.call hb7
   refine RegI.p 1 [(0, .string p0), (6, .int .i64 t2), (7, .int .i64 t3), (8, .int .i64 t10)] ?_
   refine RegI.d ?_
   refine RunsI.g 2 [.c 29, .c 30, .c 35, .blk 1, .c 36, .lp 17, .blk 0, .c 37] ?_
   refine RunsI.r ?_
   refine RegI.p 2 [(0, .string p0), (6, .int .i64 t2), (7, .int .i64 t3), (8, .int .i64 t10), (24, .bool (decide (t10 < 0)))] ?_
   refine RegI.d ?_
   rcases of_cond h with ⟨hc11, h⟩ | ⟨hc11, h⟩
   ·skip
    refine RunsI.f 24 true hc11 ?_
    refine RunsI.b true 31 ?_
    refine RunsI.g 1 [.c 32, .c 33, .c 35, .blk 1, .c 36, .lp 17, .blk 0, .c 37] ?_
    refine RunsI.r ?_
    refine RegI.p 2 [(4, .int .i64 0), (5, .bool false)] ?_
    refine RegI.d ?_
    refine RunsI.t (.tuple #[.int .i64 0, .bool false]) ?_
    exact hk1 w6 (Option.some.inj h).symm (h8.pick [] (by decide))
   ·skip
    refine RunsI.f 24 false hc11 ?_
    refine RunsI.b false 34 ?_
    refine RunsI.g 1 [.c 35, .blk 1, .c 36, .lp 17, .blk 0, .c 37] ?_
    refine RunsI.r ?_
    refine RegI.p 5 [(0, .string p0), (6, .int .i64 (IntKind.wrap .i64 ((IntKind.wrap .i64 (16 * t2)) + t10))), (7, .int .i64 t3)] ?_
    refine RegI.d ?_
    refine RunsI.g 1 [.c 36, .lp 17, .blk 0, .c 37] ?_
    refine RunsI.r ?_
    refine RegI.p 3 [(0, .string p0), (6, .int .i64 (IntKind.wrap .i64 ((IntKind.wrap .i64 (16 * t2)) + t10))), (7, .int .i64 (IntKind.wrap .i64 (t3 + 1)))] ?_
    refine RegI.d ?_
    refine RunsI.g 1 [.c 17, .lp 17, .blk 0, .c 37] ?_
    refine RunsI.l [0, 6, 7] [(0, .string p0), (6, .int .i64 (IntKind.wrap .i64 ((IntKind.wrap .i64 (16 * t2)) + t10))), (7, .int .i64 (IntKind.wrap .i64 (t3 + 1)))] ?_
    exact ih (IntKind.wrap .i64 ((IntKind.wrap .i64 (16 * t2)) + t10)) (IntKind.wrap .i64 (t3 + 1)) w6 h (h8.pick [] (by decide))
  ·skip
   refine RunsI.f 16 false hc4 ?_
   refine RunsI.b false 22 ?_
   refine RunsI.g 1 [.c 37] ?_
   refine RunsI.l [6] [(6, .int .i64 t2)] ?_
   exact hk0 t2 w (Option.some.inj h).symm (hH.pick [] (by decide))
def charabancref30_number_25.f (K : Nat) (p0 : ByteArray) (p1 : Int) : Option (Int × Bool) := cond ((p0.size : Int) != p1) (some (0, false)) ((charabancref30_number_25.l0 K p0 p1 K 0 0).bind (fun x13 => Lp.elim x13 (fun _ => some (0, false)) (fun t15 => some (t15, true))))
set_option maxRecDepth 100000 in
theorem charabancref30_number_25_ok (K : Nat) (M0 : Nat → Prop) (w0 : World) (p0 : ByteArray) (p1 : Int) (ho : ∀ b, M0 b → b < w0.heap.size) {r : Int × Bool} (h : charabancref30_number_25.f K p0 p1 = some r) :
  Calls Tryd.prog 25 #[.string p0, .int .i64 p1] w0 (charabancref30_number_25.post M0 w0 r) := by
 unfold charabancref30_number_25.f at h
 have h0 : Holds M0 w0 w0 [] := Holds.start ho
 have h0 : Holds M0 w0 w0 [] := h0
 refine calls_of F25 rfl [.string p0, .int .i64 p1] (by kernel_rfl) ?_
 refine RunsI.g 1 [.c 1, .c 2] ?_
 refine RunsI.r ?_
 refine RegI.p 2 [(0, .string p0), (1, .int .i64 p1)] ?_
 refine RegI.d ?_
 refine RunsI.g 2 [.c 4, .c 5, .c 10] ?_
 refine RunsI.r ?_
 refine RegI.p 4 [(0, .string p0), (12, .bool ((p0.size : Int) != p1))] ?_
 refine RegI.d ?_
 rcases of_cond h with ⟨hc1, h⟩ | ⟨hc1, h⟩
 ·skip
  refine RunsI.f 12 true hc1 ?_
  refine RunsI.b true 6 ?_
  refine RunsI.g 1 [.c 7, .c 8, .c 10] ?_
  refine RunsI.r ?_
  refine RegI.p 2 [(4, .int .i64 0), (5, .bool false)] ?_
  refine RegI.d ?_
  refine RunsI.t (.tuple #[.int .i64 0, .bool false]) ?_
  obtain rfl := Option.some.inj h
  exact ⟨rfl, h0.below⟩
 ·skip
  refine RunsI.f 12 false hc1 ?_
  refine RunsI.b false 9 ?_
  refine RunsI.g 1 [.c 10] ?_
  refine RunsI.g 1 [.c 11, .c 12] ?_
  refine RunsI.r ?_
  refine RegI.p 1 [(0, .string p0), (6, .int .i64 0)] ?_
  refine RegI.d ?_
  refine RunsI.g 2 [.c 14, .c 15, .c 37] ?_
  refine RunsI.r ?_
  refine RegI.p 1 [(0, .string p0), (6, .int .i64 0), (7, .int .i64 0)] ?_
  refine RegI.d ?_
  refine RunsI.g 2 [.c 17, .lp 17, .blk 0, .c 37] ?_
  obtain ⟨x13, hx14, h⟩ := of_bind h
  refine RunsI.l [0, 6, 7] [(0, .string p0), (6, .int .i64 0), (7, .int .i64 0)] ?_
  refine charabancref30_number_25.l0_ok K M0 w0 p0 p1 _ x13 ?_ ?_ K 0 0 w0 hx14 (h0.pick [] (by decide))
  ·intro t15 w17 hq20 h16
   (try rw [hq20] at h)
   dsimp only [Lp.elim] at h
   refine RunsI.g 1 [.c 38, .c 39] ?_
   refine RunsI.r ?_
   refine RegI.p 3 [(4, .int .i64 t15), (5, .bool true)] ?_
   refine RegI.d ?_
   refine RunsI.t (.tuple #[.int .i64 t15, .bool true]) ?_
   obtain rfl := Option.some.inj h
   exact ⟨rfl, h16.below⟩
  ·intro w19 hq21 h18
   (try rw [hq21] at h)
   dsimp only [Lp.elim] at h
   obtain rfl := Option.some.inj h
   exact ⟨rfl, h18.below⟩
end

/-! ### charabanc/charabancref30.Bytes (function 10) -/
section
def charabancref30_Bytes_10.post (M0 : Nat → Prop) (w0 : World) (r : (List Int) × Bool) : Ending → World → Prop := fun e w => ∃ (A1 : Option Addr) (c1 : Nat), e = .returned (.tuple #[.slice A1 r.1.length c1, .bool r.2]) ∧ Holds M0 w0 w [own (Rp.int .u8) 5 (.slice A1 r.1.length c1) r.1]
def charabancref30_Bytes_10.l0 (K : Nat) (p0 : ByteArray) : Nat → (List Int) → Int → Option (Lp Unit (List Int))
 | 0, _, _ => none
 | k + 1, t4, t5 => cond (decide (t5 < (p0.size : Int))) (cond (cutR t5 (if (p0.size : Int) < (IntKind.wrap .i64 (t5 + 2)) then (p0.size : Int) else (IntKind.wrap .i64 (t5 + 2))) p0.size) ((charabancref30_number_25.f K (strCut p0 t5 (if (p0.size : Int) < (IntKind.wrap .i64 (t5 + 2)) then (p0.size : Int) else (IntKind.wrap .i64 (t5 + 2)))) 2).bind fun yt12 => cond (!yt12.2) (some (Lp.ret ())) (cond (mayBe (t4.length + ([(IntKind.wrap .u8 yt12.1)] : List Int).length) 1) (charabancref30_Bytes_10.l0 K p0 k (t4 ++ ([(IntKind.wrap .u8 yt12.1)] : List Int)) (IntKind.wrap .i64 (t5 + 2))) none)) none) (some (Lp.go t4))
set_option maxRecDepth 100000 in
theorem charabancref30_Bytes_10.l0_ok (K : Nat) (M0 : Nat → Prop) (w0 : World) (p0 : ByteArray) (R : Ending → World → Prop) (x : Lp Unit (List Int)) (hk0 : ∀ (t28 : List Int) (A26 : Option Addr) (c27 : Nat) (w1 : World), x = Lp.go t28 → Holds M0 w0 w1 [own (Rp.int .u8) 5 (.slice A26 t28.length c27) t28] → RunsI F10 [.c 29] [(4, .slice A26 t28.length c27)] w1 R) (hk1 : ∀ (w1 : World), x = Lp.ret () → Holds M0 w0 w1 [] → R (.returned (.tuple #[.slice none 0 0, .bool false])) w1) :
  ∀ (k : Nat) (t4 : List Int) (t5 : Int) (A2 : Option Addr) (c3 : Nat) (w : World), charabancref30_Bytes_10.l0 K p0 k t4 t5 = some x → Holds M0 w0 w [own (Rp.int .u8) 5 (.slice A2 t4.length c3) t4] → RunsI F10 [.c 9, .lp 9, .blk 0, .c 29] [(0, .string p0), (4, .slice A2 t4.length c3), (5, .int .i64 t5)] w R := by
 intro k
 induction k with
 | zero => intro t4 t5 A2 c3 w h hH; exact absurd h (by simp [charabancref30_Bytes_10.l0])
 | succ k ih =>
  intro t4 t5 A2 c3 w h hH
  rw [charabancref30_Bytes_10.l0.eq_2] at h
  refine RunsI.g 1 [.c 10, .c 15, .lp 9, .blk 0, .c 29] ?_
  refine RunsI.g 1 [.c 11, .c 12, .c 15, .lp 9, .blk 0, .c 29] ?_
  refine RunsI.r ?_
  refine RegI.p 4 [(0, .string p0), (4, .slice A2 t4.length c3), (5, .int .i64 t5), (11, .bool (decide (t5 < (p0.size : Int))))] ?_
  refine RegI.d ?_
  rcases of_cond h with ⟨hc6, h⟩ | ⟨hc6, h⟩
  ·skip
   refine RunsI.f 11 true hc6 ?_
   refine RunsI.b true 13 ?_
   refine RunsI.g 1 [.c 15, .lp 9, .blk 0, .c 29] ?_
   refine RunsI.g 3 [.c 18, .c 19, .blk 1, .c 28, .lp 9, .blk 0, .c 29] ?_
   refine RunsI.r ?_
   refine RegI.p 7 [(0, .string p0), (4, .slice A2 t4.length c3), (5, .int .i64 t5), (15, .string p0), (16, .int .i64 t5), (21, .int .i64 (if (p0.size : Int) < (IntKind.wrap .i64 (t5 + 2)) then (p0.size : Int) else (IntKind.wrap .i64 (t5 + 2))))] ?_
   obtain ⟨hc7, h⟩ := of_cond0 h
   refine RegI.o (OpE.run 22 (by kernel_rfl) (run_strCut (T := 9) (s := p0) (lo := (some t5)) (hi := (some (if (p0.size : Int) < (IntKind.wrap .i64 (t5 + 2)) then (p0.size : Int) else (IntKind.wrap .i64 (t5 + 2))))) (by kernel_rfl) (by kernel_rfl) hc7) ?_)
   obtain ⟨⟨t12, t13⟩, hg11, h⟩ := of_bind h
   dsimp only at h
   refine RegI.o (OpE.call 23 (by kernel_rfl) 25 #[.string (strCut p0 t5 (if (p0.size : Int) < (IntKind.wrap .i64 (t5 + 2)) then (p0.size : Int) else (IntKind.wrap .i64 (t5 + 2)))), .int .i64 2] (by kernel_rfl) ((charabancref30_number_25_ok K _ w  (strCut p0 t5 (if (p0.size : Int) < (IntKind.wrap .i64 (t5 + 2)) then (p0.size : Int) else (IntKind.wrap .i64 (t5 + 2)))) 2 hH.old' hg11).mono ?_))
   rintro _ w8 ⟨rfl, hb9⟩
   refine ⟨_, rfl, ?_⟩
   have h10 := hH.call hb9
   refine RegI.p 5 [(0, .string p0), (4, .slice A2 t4.length c3), (5, .int .i64 t5), (6, .int .i64 t12), (7, .bool t13)] ?_
   refine RegI.d ?_
   refine RunsI.g 2 [.c 21, .c 22, .c 27, .blk 1, .c 28, .lp 9, .blk 0, .c 29] ?_
   refine RunsI.r ?_
   refine RegI.p 2 [(0, .string p0), (4, .slice A2 t4.length c3), (5, .int .i64 t5), (6, .int .i64 t12), (27, .bool (!t13))] ?_
   refine RegI.d ?_
   rcases of_cond h with ⟨hc14, h⟩ | ⟨hc14, h⟩
   ·skip
    refine RunsI.f 27 true hc14 ?_
    refine RunsI.b true 23 ?_
    refine RunsI.g 1 [.c 24, .c 25, .c 27, .blk 1, .c 28, .lp 9, .blk 0, .c 29] ?_
    refine RunsI.r ?_
    refine RegI.p 2 [(2, .slice none 0 0), (3, .bool false)] ?_
    refine RegI.d ?_
    refine RunsI.t (.tuple #[.slice none 0 0, .bool false]) ?_
    exact hk1 w8 (Option.some.inj h).symm (h10.pick [] (by decide))
   ·skip
    refine RunsI.f 27 false hc14 ?_
    refine RunsI.b false 26 ?_
    refine RunsI.g 1 [.c 27, .blk 1, .c 28, .lp 9, .blk 0, .c 29] ?_
    refine RunsI.r ?_
    refine RegI.p 3 [(0, .string p0), (5, .int .i64 t5), (28, .slice A2 t4.length c3), (30, .int .u8 (IntKind.wrap .u8 t12))] ?_
    refine RegI.o (OpE.lit 31 5 [.int .u8 (IntKind.wrap .u8 t12)] 1 h10 (by kernel_rfl) (by kernel_rfl) ?_)
    intro w15 b16 h17 hb18 hn19
    obtain ⟨hc20, h⟩ := of_cond0 h
    refine RegI.o (OpE.appendBox 32 0 1 22 5 1 ([(IntKind.wrap .u8 t12)] : List Int) 0 h17 (by kernel_rfl) (by kernel_rfl) (by kernel_rfl) rfl rfl rfl (cells_int _ _ _ _) hc20 ?_)
    intro w21 A22 c23 h24 hk25
    refine RegI.p 1 [(0, .string p0), (4, .slice A22 ((t4 ++ ([(IntKind.wrap .u8 t12)] : List Int)).length) c23), (5, .int .i64 t5)] ?_
    refine RegI.d ?_
    refine RunsI.g 1 [.c 28, .lp 9, .blk 0, .c 29] ?_
    refine RunsI.r ?_
    refine RegI.p 3 [(0, .string p0), (4, .slice A22 ((t4 ++ ([(IntKind.wrap .u8 t12)] : List Int)).length) c23), (5, .int .i64 (IntKind.wrap .i64 (t5 + 2)))] ?_
    refine RegI.d ?_
    refine RunsI.g 1 [.c 9, .lp 9, .blk 0, .c 29] ?_
    refine RunsI.l [0, 4, 5] [(0, .string p0), (4, .slice A22 ((t4 ++ ([(IntKind.wrap .u8 t12)] : List Int)).length) c23), (5, .int .i64 (IntKind.wrap .i64 (t5 + 2)))] ?_
    exact ih (t4 ++ ([(IntKind.wrap .u8 t12)] : List Int)) (IntKind.wrap .i64 (t5 + 2)) A22 c23 w21 h (h24.pick [0] (by decide))
  ·skip
   refine RunsI.f 11 false hc6 ?_
   refine RunsI.b false 14 ?_
   refine RunsI.g 1 [.c 29] ?_
   refine RunsI.l [4] [(4, .slice A2 t4.length c3)] ?_
   exact hk0 t4 A2 c3 w (Option.some.inj h).symm (hH.pick [0] (by decide))
def charabancref30_Bytes_10.f (K : Nat) (p0 : ByteArray) : Option ((List Int) × Bool) := (charabancref30_Bytes_10.l0 K p0 K ([] : List Int) 0).bind (fun x29 => Lp.elim x29 (fun _ => some (([] : List Int), false)) (fun t33 => some (t33, true)))
set_option maxRecDepth 100000 in
theorem charabancref30_Bytes_10_ok (K : Nat) (M0 : Nat → Prop) (w0 : World) (p0 : ByteArray) (ho : ∀ b, M0 b → b < w0.heap.size) {r : (List Int) × Bool} (h : charabancref30_Bytes_10.f K p0 = some r) :
  Calls Tryd.prog 10 #[.string p0] w0 (charabancref30_Bytes_10.post M0 w0 r) := by
 unfold charabancref30_Bytes_10.f at h
 have h0 : Holds M0 w0 w0 [] := Holds.start ho
 have h0 : Holds M0 w0 w0 [] := h0
 refine calls_of F10 rfl [.string p0] (by kernel_rfl) ?_
 refine RunsI.g 1 [.c 1, .c 2] ?_
 refine RunsI.r ?_
 refine RegI.p 2 [(0, .string p0)] ?_
 refine RegI.d ?_
 refine RunsI.g 1 [.c 3, .c 4] ?_
 refine RunsI.r ?_
 refine RegI.p 1 [(0, .string p0), (4, .slice none 0 0)] ?_
 refine RegI.d ?_
 refine RunsI.g 2 [.c 6, .c 7, .c 29] ?_
 refine RunsI.r ?_
 refine RegI.p 1 [(0, .string p0), (4, .slice none 0 0), (5, .int .i64 0)] ?_
 refine RegI.d ?_
 refine RunsI.g 2 [.c 9, .lp 9, .blk 0, .c 29] ?_
 obtain ⟨x29, hx30, h⟩ := of_bind h
 have h1 := h0.addOwnNil (Rp.int .u8) 5
 refine RunsI.l [0, 4, 5] [(0, .string p0), (4, .slice none (([] : List Int).length) 0), (5, .int .i64 0)] ?_
 refine charabancref30_Bytes_10.l0_ok K M0 w0 p0 _ x29 ?_ ?_ K ([] : List Int) 0 none 0 w0 hx30 (h1.pick [0] (by decide))
 ·intro t33 A31 c32 w35 hq38 h34
  (try rw [hq38] at h)
  dsimp only [Lp.elim] at h
  refine RunsI.g 1 [.c 30, .c 31] ?_
  refine RunsI.r ?_
  refine RegI.p 3 [(2, .slice A31 t33.length c32), (3, .bool true)] ?_
  refine RegI.d ?_
  refine RunsI.t (.tuple #[.slice A31 t33.length c32, .bool true]) ?_
  obtain rfl := Option.some.inj h
  exact ⟨A31, c32, rfl, h34.pick [0] (by decide)⟩
 ·intro w37 hq39 h36
  (try rw [hq39] at h)
  dsimp only [Lp.elim] at h
  have h40 := h36.addOwnNil (Rp.int .u8) 5
  obtain rfl := Option.some.inj h
  exact ⟨none, 0, rfl, h40.pick [0] (by decide)⟩
end

/-! ### charabanc/charabancref30.begins (function 45) -/
section
def charabancref30_begins_45.post (M0 : Nat → Prop) (w0 : World) (r : ByteArray × Bool) : Ending → World → Prop := fun e w => e = .returned (.tuple #[.string r.1, .bool r.2]) ∧ Below w0.heap.size w0 w
def charabancref30_begins_45.f (K : Nat) (p0 : ByteArray) (p1 : ByteArray) : Option (ByteArray × Bool) := Let (fun (t3 : Bool) => cond t3 (some ((⟨#[]⟩ : ByteArray), false)) (cond (cutR (p1.size : Int) (p0.size : Int) p0.size) (some ((strCut p0 (p1.size : Int) (p0.size : Int)), true)) none)) (fun j6 => cond (decide ((p0.size : Int) < (p1.size : Int))) (j6 true) (cond (cutR 0 (p1.size : Int) p0.size) (j6 (!((ByteArray.toList (strCut p0 0 (p1.size : Int))) == (ByteArray.toList p1)))) none))
set_option maxRecDepth 100000 in
theorem charabancref30_begins_45_ok (K : Nat) (M0 : Nat → Prop) (w0 : World) (p0 : ByteArray) (p1 : ByteArray) (ho : ∀ b, M0 b → b < w0.heap.size) {r : ByteArray × Bool} (h : charabancref30_begins_45.f K p0 p1 = some r) :
  Calls Tryd.prog 45 #[.string p0, .string p1] w0 (charabancref30_begins_45.post M0 w0 r) := by
 unfold charabancref30_begins_45.f at h
 have h0 : Holds M0 w0 w0 [] := Holds.start ho
 have h0 : Holds M0 w0 w0 [] := h0
 refine calls_of F45 rfl [.string p0, .string p1] (by kernel_rfl) ?_
 refine RunsI.g 1 [.c 1, .c 2] ?_
 refine RunsI.r ?_
 refine RegI.p 2 [(0, .string p0), (1, .string p1)] ?_
 refine RegI.d ?_
 refine RunsI.g 2 [.c 4, .c 5, .c 10] ?_
 refine RunsI.r ?_
 refine RegI.p 6 [(0, .string p0), (1, .string p1), (11, .bool (decide ((p0.size : Int) < (p1.size : Int))))] ?_
 obtain ⟨j6, hJ7, h⟩ := of_let h
 have hj8 : ∀ (t3 : Bool) (w5 : World), j6 t3 = some r → Holds M0 w0 w5 [] → RegI F45 4 [.c 5, .c 10] 13 [(0, .string p0), (1, .string p1), (18, .bool t3)] w5 (charabancref30_begins_45.post M0 w0 r) := by
  intro t3 w5 h h4
  rw [hJ7] at h
  clear hJ7
  dsimp only at h
  refine RegI.d ?_
  rcases of_cond h with ⟨hc9, h⟩ | ⟨hc9, h⟩
  ·skip
   refine RunsI.f 18 true hc9 ?_
   refine RunsI.b true 6 ?_
   refine RunsI.g 1 [.c 7, .c 8, .c 10] ?_
   refine RunsI.r ?_
   refine RegI.p 2 [(4, .string (⟨#[]⟩ : ByteArray)), (5, .bool false)] ?_
   refine RegI.d ?_
   refine RunsI.t (.tuple #[.string (⟨#[]⟩ : ByteArray), .bool false]) ?_
   obtain rfl := Option.some.inj h
   exact ⟨rfl, h4.below⟩
  ·skip
   refine RunsI.f 18 false hc9 ?_
   refine RunsI.b false 9 ?_
   refine RunsI.g 1 [.c 10] ?_
   refine RunsI.g 1 [.c 11, .c 12] ?_
   refine RunsI.r ?_
   refine RegI.p 3 [(19, .string p0), (21, .int .i64 (p1.size : Int))] ?_
   obtain ⟨hc10, h⟩ := of_cond0 h
   refine RegI.o (OpE.run 22 (by kernel_rfl) (run_strCut (T := 9) (s := p0) (lo := (some (p1.size : Int))) (hi := none) (by kernel_rfl) (by kernel_rfl) hc10) ?_)
   refine RegI.p 2 [(4, .string (strCut p0 (p1.size : Int) (p0.size : Int))), (5, .bool true)] ?_
   refine RegI.d ?_
   refine RunsI.t (.tuple #[.string (strCut p0 (p1.size : Int) (p0.size : Int)), .bool true]) ?_
   obtain rfl := Option.some.inj h
   exact ⟨rfl, h4.below⟩
 clear hJ7
 rcases of_cond h with ⟨hc1, h⟩ | ⟨hc1, h⟩
 ·skip
  refine RegI.f 11 true hc1 ?_
  refine RegI.p 7 [(0, .string p0), (1, .string p1), (18, .bool true)] ?_
  refine RegI.l [0, 1, 18] [(0, .string p0), (1, .string p1), (18, .bool true)] ?_
  exact hj8 true w0 h (h0.pick [] (by decide))
 ·skip
  refine RegI.f 11 false hc1 ?_
  refine RegI.p 3 [(0, .string p0), (1, .string p1), (11, .bool false), (12, .string p0), (14, .int .i64 (p1.size : Int))] ?_
  obtain ⟨hc2, h⟩ := of_cond0 h
  refine RegI.o (OpE.run 15 (by kernel_rfl) (run_strCut (T := 9) (s := p0) (lo := none) (hi := (some (p1.size : Int))) (by kernel_rfl) (by kernel_rfl) hc2) ?_)
  refine RegI.p 3 [(0, .string p0), (1, .string p1), (18, .bool (!((ByteArray.toList (strCut p0 0 (p1.size : Int))) == (ByteArray.toList p1))))] ?_
  refine RegI.l [0, 1, 18] [(0, .string p0), (1, .string p1), (18, .bool (!((ByteArray.toList (strCut p0 0 (p1.size : Int))) == (ByteArray.toList p1))))] ?_
  exact hj8 (!((ByteArray.toList (strCut p0 0 (p1.size : Int))) == (ByteArray.toList p1))) w0 h (h0.pick [] (by decide))
end

/-! ### charabanc/charabancref30.few (function 46) -/
section
def charabancref30_few_46.post (M0 : Nat → Prop) (w0 : World) (r : Int × Bool) : Ending → World → Prop := fun e w => e = .returned (.tuple #[.int .i64 r.1, .bool r.2]) ∧ Below w0.heap.size w0 w
def charabancref30_few_46.f (K : Nat) (p0 : ByteArray) : Option (Int × Bool) := Let (fun (t4 : Bool) => cond t4 (some (0, false)) (cond (inR 0 p0.size) (some ((IntKind.wrap .i64 ((IntKind.wrap .i64 (btD p0 0)) - 48)), true)) none)) (fun j7 => cond ((p0.size : Int) != 1) (j7 true) (cond (inR 0 p0.size) (cond (decide ((btD p0 0) < 48)) (j7 true) (j7 (decide ((btD p0 0) > 56)))) none))
set_option maxRecDepth 100000 in
theorem charabancref30_few_46_ok (K : Nat) (M0 : Nat → Prop) (w0 : World) (p0 : ByteArray) (ho : ∀ b, M0 b → b < w0.heap.size) {r : Int × Bool} (h : charabancref30_few_46.f K p0 = some r) :
  Calls Tryd.prog 46 #[.string p0] w0 (charabancref30_few_46.post M0 w0 r) := by
 unfold charabancref30_few_46.f at h
 have h0 : Holds M0 w0 w0 [] := Holds.start ho
 have h0 : Holds M0 w0 w0 [] := h0
 refine calls_of F46 rfl [.string p0] (by kernel_rfl) ?_
 refine RunsI.g 1 [.c 1, .c 2] ?_
 refine RunsI.r ?_
 refine RegI.p 2 [(0, .string p0)] ?_
 refine RegI.d ?_
 refine RunsI.g 2 [.c 4, .c 5, .c 10] ?_
 refine RunsI.r ?_
 refine RegI.p 4 [(0, .string p0), (7, .bool ((p0.size : Int) != 1))] ?_
 obtain ⟨j7, hJ8, h⟩ := of_let h
 have hj9 : ∀ (t4 : Bool) (w6 : World), j7 t4 = some r → Holds M0 w0 w6 [] → RegI F46 4 [.c 5, .c 10] 13 [(0, .string p0), (16, .bool t4)] w6 (charabancref30_few_46.post M0 w0 r) := by
  intro t4 w6 h h5
  rw [hJ8] at h
  clear hJ8
  dsimp only at h
  refine RegI.d ?_
  rcases of_cond h with ⟨hc10, h⟩ | ⟨hc10, h⟩
  ·skip
   refine RunsI.f 16 true hc10 ?_
   refine RunsI.b true 6 ?_
   refine RunsI.g 1 [.c 7, .c 8, .c 10] ?_
   refine RunsI.r ?_
   refine RegI.p 2 [(2, .int .i64 0), (3, .bool false)] ?_
   refine RegI.d ?_
   refine RunsI.t (.tuple #[.int .i64 0, .bool false]) ?_
   obtain rfl := Option.some.inj h
   exact ⟨rfl, h5.below⟩
  ·skip
   refine RunsI.f 16 false hc10 ?_
   refine RunsI.b false 9 ?_
   refine RunsI.g 1 [.c 10] ?_
   refine RunsI.g 1 [.c 11, .c 12] ?_
   refine RunsI.r ?_
   refine RegI.p 1 [(17, .string p0)] ?_
   obtain ⟨hc11, h⟩ := of_cond0 h
   refine RegI.o (OpE.run 18 (by kernel_rfl) (run_strIdx (T0 := 9) (s := p0) (j := 0) (by kernel_rfl) (by kernel_rfl) hc11) ?_)
   refine RegI.p 4 [(2, .int .i64 (IntKind.wrap .i64 ((IntKind.wrap .i64 (btD p0 0)) - 48))), (3, .bool true)] ?_
   refine RegI.d ?_
   refine RunsI.t (.tuple #[.int .i64 (IntKind.wrap .i64 ((IntKind.wrap .i64 (btD p0 0)) - 48)), .bool true]) ?_
   obtain rfl := Option.some.inj h
   exact ⟨rfl, h5.below⟩
 clear hJ8
 rcases of_cond h with ⟨hc1, h⟩ | ⟨hc1, h⟩
 ·skip
  refine RegI.f 7 true hc1 ?_
  refine RegI.p 9 [(0, .string p0), (16, .bool true)] ?_
  refine RegI.l [0, 16] [(0, .string p0), (16, .bool true)] ?_
  exact hj9 true w0 h (h0.pick [] (by decide))
 ·skip
  refine RegI.f 7 false hc1 ?_
  refine RegI.p 1 [(0, .string p0), (7, .bool false), (8, .string p0)] ?_
  obtain ⟨hc2, h⟩ := of_cond0 h
  refine RegI.o (OpE.run 9 (by kernel_rfl) (run_strIdx (T0 := 9) (s := p0) (j := 0) (by kernel_rfl) (by kernel_rfl) hc2) ?_)
  refine RegI.p 3 [(0, .string p0), (12, .bool (decide ((btD p0 0) < 48)))] ?_
  rcases of_cond h with ⟨hc3, h⟩ | ⟨hc3, h⟩
  ·skip
   refine RegI.f 12 true hc3 ?_
   refine RegI.p 4 [(0, .string p0), (16, .bool true)] ?_
   refine RegI.l [0, 16] [(0, .string p0), (16, .bool true)] ?_
   exact hj9 true w0 h (h0.pick [] (by decide))
  ·skip
   refine RegI.f 12 false hc3 ?_
   refine RegI.p 1 [(0, .string p0), (12, .bool false), (13, .string p0)] ?_
   refine RegI.o (OpE.run 14 (by kernel_rfl) (run_strIdx (T0 := 9) (s := p0) (j := 0) (by kernel_rfl) (by kernel_rfl) hc2) ?_)
   refine RegI.p 2 [(0, .string p0), (16, .bool (decide ((btD p0 0) > 56)))] ?_
   refine RegI.l [0, 16] [(0, .string p0), (16, .bool (decide ((btD p0 0) > 56)))] ?_
   exact hj9 (decide ((btD p0 0) > 56)) w0 h (h0.pick [] (by decide))
end

/-! ### charabanc/charabancref19.put (function 65) -/
section
def charabancref19_put_65.post (M0 : Nat → Prop) (w0 : World) (r : (List Int) × Int × Int × (List (Int × Int))) : Ending → World → Prop := fun e w => ∃ (A1 : Option Addr) (c1 : Nat) (A4 : Option Addr) (c4 : Nat), e = .returned (.agg #[.slice A1 r.1.length c1, .int .i64 r.2.1, .int .i64 r.2.2.1, .slice A4 r.2.2.2.length c4]) ∧ Holds M0 w0 w [sl (Rp.int .u8) (.slice A1 r.1.length c1) r.1, own (Rp.pair (Rp.int .i64) (Rp.int .u8)) 65 (.slice A4 r.2.2.2.length c4) r.2.2.2]
def charabancref19_put_65.l0 (K : Nat) (p0_0 : List Int) (p0_1 : Int) (p0_2 : Int) (p0_3 : List (Int × Int)) (p1 : Int) (p2 : Int) : Nat → (List (Int × Int)) → Bool → Int → Option ((List (Int × Int)) × Bool)
 | 0, _, _, _ => none
 | k + 1, t16, t17, t18 => cond (decide (t18 < (p0_3.length : Int))) (cond (inR t18 p0_3.length) (Let (fun (t35 : Bool) => Let (fun (yj59 : (List (Int × Int)) × Bool) => cond (((rdD p0_3 t18).1) != p1) (cond (mayBe (yj59.1.length + ([((rdD p0_3 t18).1, (rdD p0_3 t18).2)] : List (Int × Int)).length) 16) (charabancref19_put_65.l0 K p0_0 p0_1 p0_2 p0_3 p1 p2 k (yj59.1 ++ ([((rdD p0_3 t18).1, (rdD p0_3 t18).2)] : List (Int × Int))) yj59.2 (IntKind.wrap .i64 (t18 + 1))) none) (charabancref19_put_65.l0 K p0_0 p0_1 p0_2 p0_3 p1 p2 k yj59.1 yj59.2 (IntKind.wrap .i64 (t18 + 1)))) (fun j59 => cond t35 (cond (mayBe (t16.length + ([(p1, p2)] : List (Int × Int)).length) 16) (j59 ((t16 ++ ([(p1, p2)] : List (Int × Int))), true)) none) (j59 (t16, t17)))) (fun j38 => cond (decide (((rdD p0_3 t18).1) > p1)) (j38 (!t17)) (j38 false))) none) (some (t16, t17))
set_option maxRecDepth 100000 in
theorem charabancref19_put_65.l0_ok (K : Nat) (M0 : Nat → Prop) (w0 : World) (pA0_0 : Option Addr) (pc0_0 : Nat) (pA0_3 : Option Addr) (pc0_3 : Nat) (p0_0 : List Int) (p0_1 : Int) (p0_2 : Int) (p0_3 : List (Int × Int)) (p1 : Int) (p2 : Int) (b12 : Nat) (b13 : Nat) (R : Ending → World → Prop) (x : (List (Int × Int)) × Bool) (hk0 : ∀ (t76 : List (Int × Int)) (t77 : Bool) (A74 : Option Addr) (c75 : Nat) (w1 : World), x = (t76, t77) → Holds M0 w0 w1 [box b12 35 [.slice pA0_0 p0_0.length pc0_0, .int .i64 p0_1, .int .i64 p0_2, .slice pA0_3 p0_3.length pc0_3], sl (Rp.int .u8) (.slice pA0_0 p0_0.length pc0_0) p0_0, sl (Rp.pair (Rp.int .i64) (Rp.int .u8)) (.slice pA0_3 p0_3.length pc0_3) p0_3, box b13 35 [.slice none 0 0, .int .i64 0, .int .i64 0, .slice none 0 0], own (Rp.pair (Rp.int .i64) (Rp.int .u8)) 65 (.slice A74 t76.length c75) t76] → RunsI F65 [.c 35] [(1, .int .i64 p1), (2, .int .u8 p2), (3, .pointer (some ⟨b12, 0, none⟩)), (6, .pointer (some ⟨b13, 0, none⟩)), (7, .slice A74 t76.length c75), (8, .bool t77)] w1 R) :
  ∀ (k : Nat) (t16 : List (Int × Int)) (t17 : Bool) (t18 : Int) (A14 : Option Addr) (c15 : Nat) (w : World), charabancref19_put_65.l0 K p0_0 p0_1 p0_2 p0_3 p1 p2 k t16 t17 t18 = some x → Holds M0 w0 w [box b12 35 [.slice pA0_0 p0_0.length pc0_0, .int .i64 p0_1, .int .i64 p0_2, .slice pA0_3 p0_3.length pc0_3], sl (Rp.int .u8) (.slice pA0_0 p0_0.length pc0_0) p0_0, sl (Rp.pair (Rp.int .i64) (Rp.int .u8)) (.slice pA0_3 p0_3.length pc0_3) p0_3, box b13 35 [.slice none 0 0, .int .i64 0, .int .i64 0, .slice none 0 0], own (Rp.pair (Rp.int .i64) (Rp.int .u8)) 65 (.slice A14 t16.length c15) t16] → RunsI F65 [.c 11, .lp 11, .blk 0, .c 35] [(1, .int .i64 p1), (2, .int .u8 p2), (3, .pointer (some ⟨b12, 0, none⟩)), (6, .pointer (some ⟨b13, 0, none⟩)), (7, .slice A14 t16.length c15), (8, .bool t17), (9, .int .i64 t18)] w R := by
 intro k
 induction k with
 | zero => intro t16 t17 t18 A14 c15 w h hH; exact absurd h (by simp [charabancref19_put_65.l0])
 | succ k ih =>
  intro t16 t17 t18 A14 c15 w h hH
  rw [charabancref19_put_65.l0.eq_2] at h
  refine RunsI.g 1 [.c 12, .c 17, .lp 11, .blk 0, .c 35] ?_
  refine RunsI.g 1 [.c 13, .c 14, .c 17, .lp 11, .blk 0, .c 35] ?_
  refine RunsI.r ?_
  refine RegI.p 2 [(1, .int .i64 p1), (2, .int .u8 p2), (3, .pointer (some ⟨b12, 0, none⟩)), (6, .pointer (some ⟨b13, 0, none⟩)), (7, .slice A14 t16.length c15), (8, .bool t17), (9, .int .i64 t18), (13, .int .i64 t18), (14, .pointer (some ⟨b12, 3, none⟩))] ?_
  refine RegI.o (OpE.loadBox 15 0 33 b12 3 (.slice pA0_3 p0_3.length pc0_3) hH (by kernel_rfl) (by kernel_rfl) rfl (by kernel_rfl) ?_)
  refine RegI.p 2 [(1, .int .i64 p1), (2, .int .u8 p2), (3, .pointer (some ⟨b12, 0, none⟩)), (6, .pointer (some ⟨b13, 0, none⟩)), (7, .slice A14 t16.length c15), (8, .bool t17), (9, .int .i64 t18), (17, .bool (decide (t18 < (p0_3.length : Int))))] ?_
  refine RegI.d ?_
  rcases of_cond h with ⟨hc19, h⟩ | ⟨hc19, h⟩
  ·skip
   refine RunsI.f 17 true hc19 ?_
   refine RunsI.b true 15 ?_
   refine RunsI.g 1 [.c 17, .lp 11, .blk 0, .c 35] ?_
   refine RunsI.g 3 [.c 20, .c 21, .blk 1, .c 34, .lp 11, .blk 0, .c 35] ?_
   refine RunsI.r ?_
   refine RegI.p 1 [(1, .int .i64 p1), (2, .int .u8 p2), (3, .pointer (some ⟨b12, 0, none⟩)), (6, .pointer (some ⟨b13, 0, none⟩)), (7, .slice A14 t16.length c15), (8, .bool t17), (9, .int .i64 t18), (20, .pointer (some ⟨b12, 3, none⟩))] ?_
   refine RegI.o (OpE.loadBox 21 0 33 b12 3 (.slice pA0_3 p0_3.length pc0_3) hH (by kernel_rfl) (by kernel_rfl) rfl (by kernel_rfl) ?_)
   refine RegI.p 1 [(1, .int .i64 p1), (2, .int .u8 p2), (3, .pointer (some ⟨b12, 0, none⟩)), (6, .pointer (some ⟨b13, 0, none⟩)), (7, .slice A14 t16.length c15), (8, .bool t17), (9, .int .i64 t18), (21, .slice pA0_3 p0_3.length pc0_3), (22, .int .i64 t18)] ?_
   obtain ⟨hc20, h⟩ := of_cond0 h
   refine RegI.o (OpE.idxSl 23 2 33 t18 hH (by kernel_rfl) rfl (by kernel_rfl) (by kernel_rfl) hc20 ?_)
   intro b21 o22 cs23 hk24 h25
   obtain ⟨_, _, rfl, rfl, rfl⟩ := hk24
   refine RegI.o (OpE.loadCel 24 5 65 b21 o22 0 (.agg #[.int .i64 ((rdD p0_3 t18).1), .int .u8 ((rdD p0_3 t18).2)]) h25 (by kernel_rfl) (by kernel_rfl) rfl (by kernel_rfl) ?_)
   refine RegI.o (OpE.box 10 65 [.int .i64 0, .int .u8 0] h25 (by kernel_rfl) (by kernel_rfl) ?_)
   intro w26 b27 h28 hb29 hn30
   refine RegI.o (OpE.storeBox 6 65 b27 0 (.agg #[.int .i64 ((rdD p0_3 t18).1), .int .u8 ((rdD p0_3 t18).2)]) [.int .i64 ((rdD p0_3 t18).1), .int .u8 ((rdD p0_3 t18).2)] h28 (by kernel_rfl) (by kernel_rfl) rfl (by kernel_rfl) (by kernel_rfl) (by kernel_rfl) ?_)
   intro w31 h32 hk33
   refine RegI.d ?_
   refine RunsI.g 2 [.c 23, .c 24, .c 29, .blk 1, .c 34, .lp 11, .blk 0, .c 35] ?_
   refine RunsI.r ?_
   refine RegI.p 1 [(1, .int .i64 p1), (2, .int .u8 p2), (3, .pointer (some ⟨b12, 0, none⟩)), (6, .pointer (some ⟨b13, 0, none⟩)), (7, .slice A14 t16.length c15), (8, .bool t17), (9, .int .i64 t18), (10, .pointer (some ⟨b27, 0, none⟩)), (25, .pointer (some ⟨b27, 0, none⟩))] ?_
   refine RegI.o (OpE.loadBox 26 6 3 b27 0 (.int .i64 ((rdD p0_3 t18).1)) h32 (by kernel_rfl) (by kernel_rfl) rfl (by kernel_rfl) ?_)
   refine RegI.p 3 [(1, .int .i64 p1), (2, .int .u8 p2), (3, .pointer (some ⟨b12, 0, none⟩)), (6, .pointer (some ⟨b13, 0, none⟩)), (7, .slice A14 t16.length c15), (8, .bool t17), (9, .int .i64 t18), (10, .pointer (some ⟨b27, 0, none⟩)), (29, .bool (decide (((rdD p0_3 t18).1) > p1)))] ?_
   obtain ⟨j38, hJ39, h⟩ := of_let h
   have hj40 : ∀ (t35 : Bool) (w37 : World), j38 t35 = some x → Holds M0 w0 w37 [box b12 35 [.slice pA0_0 p0_0.length pc0_0, .int .i64 p0_1, .int .i64 p0_2, .slice pA0_3 p0_3.length pc0_3], sl (Rp.int .u8) (.slice pA0_0 p0_0.length pc0_0) p0_0, sl (Rp.pair (Rp.int .i64) (Rp.int .u8)) (.slice pA0_3 p0_3.length pc0_3) p0_3, box b13 35 [.slice none 0 0, .int .i64 0, .int .i64 0, .slice none 0 0], own (Rp.pair (Rp.int .i64) (Rp.int .u8)) 65 (.slice A14 t16.length c15) t16, box b27 65 [.int .i64 ((rdD p0_3 t18).1), .int .u8 ((rdD p0_3 t18).2)]] → RegI F65 23 [.c 24, .c 29, .blk 1, .c 34, .lp 11, .blk 0, .c 35] 8 [(1, .int .i64 p1), (2, .int .u8 p2), (3, .pointer (some ⟨b12, 0, none⟩)), (6, .pointer (some ⟨b13, 0, none⟩)), (7, .slice A14 t16.length c15), (8, .bool t17), (9, .int .i64 t18), (10, .pointer (some ⟨b27, 0, none⟩)), (32, .bool t35)] w37 R := by
    intro t35 w37 h h36
    rw [hJ39] at h
    clear hJ39
    dsimp only at h
    refine RegI.d ?_
    obtain ⟨j59, hJ60, h⟩ := of_let h
    have hj61 : ∀ (t55 : List (Int × Int)) (t56 : Bool) (A53 : Option Addr) (c54 : Nat) (w58 : World), j59 (t55, t56) = some x → Holds M0 w0 w58 [box b12 35 [.slice pA0_0 p0_0.length pc0_0, .int .i64 p0_1, .int .i64 p0_2, .slice pA0_3 p0_3.length pc0_3], sl (Rp.int .u8) (.slice pA0_0 p0_0.length pc0_0) p0_0, sl (Rp.pair (Rp.int .i64) (Rp.int .u8)) (.slice pA0_3 p0_3.length pc0_3) p0_3, box b13 35 [.slice none 0 0, .int .i64 0, .int .i64 0, .slice none 0 0], own (Rp.pair (Rp.int .i64) (Rp.int .u8)) 65 (.slice A53 t55.length c54) t55, box b27 65 [.int .i64 ((rdD p0_3 t18).1), .int .u8 ((rdD p0_3 t18).2)]] → RunsI F65 [.c 29, .blk 1, .c 34, .lp 11, .blk 0, .c 35] [(1, .int .i64 p1), (2, .int .u8 p2), (3, .pointer (some ⟨b12, 0, none⟩)), (6, .pointer (some ⟨b13, 0, none⟩)), (7, .slice A53 t55.length c54), (8, .bool t56), (9, .int .i64 t18), (10, .pointer (some ⟨b27, 0, none⟩))] w58 R := by
     intro t55 t56 A53 c54 w58 h h57
     rw [hJ60] at h
     clear hJ60
     dsimp only at h
     refine RunsI.g 1 [.c 30, .c 31, .blk 1, .c 34, .lp 11, .blk 0, .c 35] ?_
     refine RunsI.r ?_
     refine RegI.p 1 [(1, .int .i64 p1), (2, .int .u8 p2), (3, .pointer (some ⟨b12, 0, none⟩)), (6, .pointer (some ⟨b13, 0, none⟩)), (7, .slice A53 t55.length c54), (8, .bool t56), (9, .int .i64 t18), (10, .pointer (some ⟨b27, 0, none⟩)), (39, .pointer (some ⟨b27, 0, none⟩))] ?_
     refine RegI.o (OpE.loadBox 40 5 3 b27 0 (.int .i64 ((rdD p0_3 t18).1)) h57 (by kernel_rfl) (by kernel_rfl) rfl (by kernel_rfl) ?_)
     refine RegI.p 2 [(1, .int .i64 p1), (2, .int .u8 p2), (3, .pointer (some ⟨b12, 0, none⟩)), (6, .pointer (some ⟨b13, 0, none⟩)), (7, .slice A53 t55.length c54), (8, .bool t56), (9, .int .i64 t18), (10, .pointer (some ⟨b27, 0, none⟩)), (42, .bool (((rdD p0_3 t18).1) != p1))] ?_
     refine RegI.d ?_
     rcases of_cond h with ⟨hc62, h⟩ | ⟨hc62, h⟩
     ·skip
      refine RunsI.f 42 true hc62 ?_
      refine RunsI.b true 32 ?_
      refine RunsI.r ?_
      refine RegI.p 1 [(1, .int .i64 p1), (2, .int .u8 p2), (3, .pointer (some ⟨b12, 0, none⟩)), (6, .pointer (some ⟨b13, 0, none⟩)), (8, .bool t56), (9, .int .i64 t18), (10, .pointer (some ⟨b27, 0, none⟩)), (43, .slice A53 t55.length c54)] ?_
      refine RegI.o (OpE.loadBox 44 5 65 b27 0 (.agg #[.int .i64 ((rdD p0_3 t18).1), .int .u8 ((rdD p0_3 t18).2)]) h57 (by kernel_rfl) (by kernel_rfl) rfl (by kernel_rfl) ?_)
      refine RegI.o (OpE.lit 45 65 [.int .i64 ((rdD p0_3 t18).1), .int .u8 ((rdD p0_3 t18).2)] 1 h57 (by kernel_rfl) (by kernel_rfl) ?_)
      intro w63 b64 h65 hb66 hn67
      obtain ⟨hc68, h⟩ := of_cond0 h
      refine RegI.o (OpE.appendBox 46 4 6 33 65 16 ([((rdD p0_3 t18).1, (rdD p0_3 t18).2)] : List (Int × Int)) 0 h65 (by kernel_rfl) (by kernel_rfl) (by kernel_rfl) rfl rfl rfl (⟨[_, _], _, rfl, ⟨[_], [_], rfl, rfl, rfl⟩, rfl⟩) hc68 ?_)
      intro w69 A70 c71 h72 hk73
      refine RegI.p 1 [(1, .int .i64 p1), (2, .int .u8 p2), (3, .pointer (some ⟨b12, 0, none⟩)), (6, .pointer (some ⟨b13, 0, none⟩)), (7, .slice A70 ((t55 ++ ([((rdD p0_3 t18).1, (rdD p0_3 t18).2)] : List (Int × Int))).length) c71), (8, .bool t56), (9, .int .i64 t18)] ?_
      refine RegI.d ?_
      refine RunsI.g 1 [.c 34, .lp 11, .blk 0, .c 35] ?_
      refine RunsI.r ?_
      refine RegI.p 3 [(1, .int .i64 p1), (2, .int .u8 p2), (3, .pointer (some ⟨b12, 0, none⟩)), (6, .pointer (some ⟨b13, 0, none⟩)), (7, .slice A70 ((t55 ++ ([((rdD p0_3 t18).1, (rdD p0_3 t18).2)] : List (Int × Int))).length) c71), (8, .bool t56), (9, .int .i64 (IntKind.wrap .i64 (t18 + 1)))] ?_
      refine RegI.d ?_
      refine RunsI.g 1 [.c 11, .lp 11, .blk 0, .c 35] ?_
      refine RunsI.l [1, 2, 3, 6, 7, 8, 9] [(1, .int .i64 p1), (2, .int .u8 p2), (3, .pointer (some ⟨b12, 0, none⟩)), (6, .pointer (some ⟨b13, 0, none⟩)), (7, .slice A70 ((t55 ++ ([((rdD p0_3 t18).1, (rdD p0_3 t18).2)] : List (Int × Int))).length) c71), (8, .bool t56), (9, .int .i64 (IntKind.wrap .i64 (t18 + 1)))] ?_
      exact ih (t55 ++ ([((rdD p0_3 t18).1, (rdD p0_3 t18).2)] : List (Int × Int))) t56 (IntKind.wrap .i64 (t18 + 1)) A70 c71 w69 h (h72.pick [0, 1, 2, 3, 4] (by decide))
     ·skip
      refine RunsI.f 42 false hc62 ?_
      refine RunsI.b false 33 ?_
      refine RunsI.g 1 [.blk 1, .c 34, .lp 11, .blk 0, .c 35] ?_
      refine RunsI.g 1 [.c 34, .lp 11, .blk 0, .c 35] ?_
      refine RunsI.r ?_
      refine RegI.p 3 [(1, .int .i64 p1), (2, .int .u8 p2), (3, .pointer (some ⟨b12, 0, none⟩)), (6, .pointer (some ⟨b13, 0, none⟩)), (7, .slice A53 t55.length c54), (8, .bool t56), (9, .int .i64 (IntKind.wrap .i64 (t18 + 1)))] ?_
      refine RegI.d ?_
      refine RunsI.g 1 [.c 11, .lp 11, .blk 0, .c 35] ?_
      refine RunsI.l [1, 2, 3, 6, 7, 8, 9] [(1, .int .i64 p1), (2, .int .u8 p2), (3, .pointer (some ⟨b12, 0, none⟩)), (6, .pointer (some ⟨b13, 0, none⟩)), (7, .slice A53 t55.length c54), (8, .bool t56), (9, .int .i64 (IntKind.wrap .i64 (t18 + 1)))] ?_
      exact ih t55 t56 (IntKind.wrap .i64 (t18 + 1)) A53 c54 w58 h (h57.pick [0, 1, 2, 3, 4] (by decide))
    clear hJ60
    rcases of_cond h with ⟨hc41, h⟩ | ⟨hc41, h⟩
    ·skip
     refine RunsI.f 32 true hc41 ?_
     refine RunsI.b true 25 ?_
     refine RunsI.g 1 [.c 26, .c 27, .c 29, .blk 1, .c 34, .lp 11, .blk 0, .c 35] ?_
     refine RunsI.r ?_
     refine RegI.p 4 [(1, .int .i64 p1), (2, .int .u8 p2), (3, .pointer (some ⟨b12, 0, none⟩)), (6, .pointer (some ⟨b13, 0, none⟩)), (9, .int .i64 t18), (10, .pointer (some ⟨b27, 0, none⟩)), (33, .slice A14 t16.length c15), (36, .agg #[.int .i64 p1, .int .u8 p2])] ?_
     refine RegI.o (OpE.lit 37 65 [.int .i64 p1, .int .u8 p2] 1 h36 (by kernel_rfl) (by kernel_rfl) ?_)
     intro w42 b43 h44 hb45 hn46
     obtain ⟨hc47, h⟩ := of_cond0 h
     refine RegI.o (OpE.appendBox 38 4 6 33 65 16 ([(p1, p2)] : List (Int × Int)) 0 h44 (by kernel_rfl) (by kernel_rfl) (by kernel_rfl) rfl rfl rfl (⟨[_, _], _, rfl, ⟨[_], [_], rfl, rfl, rfl⟩, rfl⟩) hc47 ?_)
     intro w48 A49 c50 h51 hk52
     refine RegI.p 1 [(1, .int .i64 p1), (2, .int .u8 p2), (3, .pointer (some ⟨b12, 0, none⟩)), (6, .pointer (some ⟨b13, 0, none⟩)), (7, .slice A49 ((t16 ++ ([(p1, p2)] : List (Int × Int))).length) c50), (9, .int .i64 t18), (10, .pointer (some ⟨b27, 0, none⟩))] ?_
     refine RegI.d ?_
     refine RunsI.r ?_
     refine RegI.p 1 [(1, .int .i64 p1), (2, .int .u8 p2), (3, .pointer (some ⟨b12, 0, none⟩)), (6, .pointer (some ⟨b13, 0, none⟩)), (7, .slice A49 ((t16 ++ ([(p1, p2)] : List (Int × Int))).length) c50), (8, .bool true), (9, .int .i64 t18), (10, .pointer (some ⟨b27, 0, none⟩))] ?_
     refine RegI.d ?_
     refine RunsI.l [1, 2, 3, 6, 7, 8, 9, 10] [(1, .int .i64 p1), (2, .int .u8 p2), (3, .pointer (some ⟨b12, 0, none⟩)), (6, .pointer (some ⟨b13, 0, none⟩)), (7, .slice A49 ((t16 ++ ([(p1, p2)] : List (Int × Int))).length) c50), (8, .bool true), (9, .int .i64 t18), (10, .pointer (some ⟨b27, 0, none⟩))] ?_
     exact hj61 (t16 ++ ([(p1, p2)] : List (Int × Int))) true A49 c50 w48 h (h51.pick [0, 1, 2, 3, 4, 5] (by decide))
    ·skip
     refine RunsI.f 32 false hc41 ?_
     refine RunsI.b false 28 ?_
     refine RunsI.g 1 [.c 29, .blk 1, .c 34, .lp 11, .blk 0, .c 35] ?_
     refine RunsI.l [1, 2, 3, 6, 7, 8, 9, 10] [(1, .int .i64 p1), (2, .int .u8 p2), (3, .pointer (some ⟨b12, 0, none⟩)), (6, .pointer (some ⟨b13, 0, none⟩)), (7, .slice A14 t16.length c15), (8, .bool t17), (9, .int .i64 t18), (10, .pointer (some ⟨b27, 0, none⟩))] ?_
     exact hj61 t16 t17 A14 c15 w37 h (h36.pick [0, 1, 2, 3, 4, 5] (by decide))
   clear hJ39
   rcases of_cond h with ⟨hc34, h⟩ | ⟨hc34, h⟩
   ·skip
    refine RegI.f 29 true hc34 ?_
    refine RegI.p 3 [(1, .int .i64 p1), (2, .int .u8 p2), (3, .pointer (some ⟨b12, 0, none⟩)), (6, .pointer (some ⟨b13, 0, none⟩)), (7, .slice A14 t16.length c15), (8, .bool t17), (9, .int .i64 t18), (10, .pointer (some ⟨b27, 0, none⟩)), (32, .bool (!t17))] ?_
    refine RegI.l [1, 2, 3, 6, 7, 8, 9, 10, 32] [(1, .int .i64 p1), (2, .int .u8 p2), (3, .pointer (some ⟨b12, 0, none⟩)), (6, .pointer (some ⟨b13, 0, none⟩)), (7, .slice A14 t16.length c15), (8, .bool t17), (9, .int .i64 t18), (10, .pointer (some ⟨b27, 0, none⟩)), (32, .bool (!t17))] ?_
    exact hj40 (!t17) w31 h (h32.pick [0, 1, 2, 3, 4, 6] (by decide))
   ·skip
    refine RegI.f 29 false hc34 ?_
    refine RegI.p 3 [(1, .int .i64 p1), (2, .int .u8 p2), (3, .pointer (some ⟨b12, 0, none⟩)), (6, .pointer (some ⟨b13, 0, none⟩)), (7, .slice A14 t16.length c15), (8, .bool t17), (9, .int .i64 t18), (10, .pointer (some ⟨b27, 0, none⟩)), (32, .bool false)] ?_
    refine RegI.l [1, 2, 3, 6, 7, 8, 9, 10, 32] [(1, .int .i64 p1), (2, .int .u8 p2), (3, .pointer (some ⟨b12, 0, none⟩)), (6, .pointer (some ⟨b13, 0, none⟩)), (7, .slice A14 t16.length c15), (8, .bool t17), (9, .int .i64 t18), (10, .pointer (some ⟨b27, 0, none⟩)), (32, .bool false)] ?_
    exact hj40 false w31 h (h32.pick [0, 1, 2, 3, 4, 6] (by decide))
  ·skip
   refine RunsI.f 17 false hc19 ?_
   refine RunsI.b false 16 ?_
   refine RunsI.g 1 [.c 35] ?_
   refine RunsI.l [1, 2, 3, 6, 7, 8] [(1, .int .i64 p1), (2, .int .u8 p2), (3, .pointer (some ⟨b12, 0, none⟩)), (6, .pointer (some ⟨b13, 0, none⟩)), (7, .slice A14 t16.length c15), (8, .bool t17)] ?_
   exact hk0 t16 t17 A14 c15 w (Option.some.inj h).symm (hH.pick [0, 1, 2, 3, 4] (by decide))
def charabancref19_put_65.f (K : Nat) (p0_0 : List Int) (p0_1 : Int) (p0_2 : Int) (p0_3 : List (Int × Int)) (p1 : Int) (p2 : Int) : Option ((List Int) × Int × Int × (List (Int × Int))) := (charabancref19_put_65.l0 K p0_0 p0_1 p0_2 p0_3 p1 p2 K ([] : List (Int × Int)) (p2 == 0) 0).bind (fun yx78 => cond (!yx78.2) (cond (mayBe (yx78.1.length + ([(p1, p2)] : List (Int × Int)).length) 16) (some (p0_0, p0_1, p0_2, (yx78.1 ++ ([(p1, p2)] : List (Int × Int))))) none) (some (p0_0, p0_1, p0_2, yx78.1)))
set_option maxRecDepth 100000 in
theorem charabancref19_put_65_ok (K : Nat) (M0 : Nat → Prop) (w0 : World) (pA0_0 : Option Addr) (pc0_0 : Nat) (pA0_3 : Option Addr) (pc0_3 : Nat) (p0_0 : List Int) (p0_1 : Int) (p0_2 : Int) (p0_3 : List (Int × Int)) (p1 : Int) (p2 : Int) (ho : ∀ b, M0 b → b < w0.heap.size) (hs0_0 : Sl (Rp.int .u8) w0 M0 (.slice pA0_0 p0_0.length pc0_0) p0_0) (hs0_3 : Sl (Rp.pair (Rp.int .i64) (Rp.int .u8)) w0 M0 (.slice pA0_3 p0_3.length pc0_3) p0_3) {r : (List Int) × Int × Int × (List (Int × Int))} (h : charabancref19_put_65.f K p0_0 p0_1 p0_2 p0_3 p1 p2 = some r) :
  Calls Tryd.prog 65 #[.agg #[.slice pA0_0 p0_0.length pc0_0, .int .i64 p0_1, .int .i64 p0_2, .slice pA0_3 p0_3.length pc0_3], .int .i64 p1, .int .u8 p2] w0 (charabancref19_put_65.post M0 w0 r) := by
 unfold charabancref19_put_65.f at h
 have h0 : Holds M0 w0 w0 [] := Holds.start ho
 have h00_0 := h0.addSl (Rp.int .u8) (.slice pA0_0 p0_0.length pc0_0) p0_0 (hs0_0.mono (fun _ _ hm => hm.elim id (fun hm => absurd hm (by simp [mines, sl]))))
 have h00_3 := h00_0.addSl (Rp.pair (Rp.int .i64) (Rp.int .u8)) (.slice pA0_3 p0_3.length pc0_3) p0_3 (hs0_3.mono (fun _ _ hm => hm.elim id (fun hm => absurd hm (by simp [mines, sl]))))
 have h0 : Holds M0 w0 w0 [sl (Rp.int .u8) (.slice pA0_0 p0_0.length pc0_0) p0_0, sl (Rp.pair (Rp.int .i64) (Rp.int .u8)) (.slice pA0_3 p0_3.length pc0_3) p0_3] := h00_3
 refine calls_of F65 rfl [.agg #[.slice pA0_0 p0_0.length pc0_0, .int .i64 p0_1, .int .i64 p0_2, .slice pA0_3 p0_3.length pc0_3], .int .i64 p1, .int .u8 p2] (by kernel_rfl) ?_
 refine RunsI.g 1 [.c 1, .c 2] ?_
 refine RunsI.r ?_
 refine RegI.o (OpE.box 3 35 [.slice pA0_0 p0_0.length pc0_0, .int .i64 p0_1, .int .i64 p0_2, .slice pA0_3 p0_3.length pc0_3] h0 (by kernel_rfl) (by kernel_rfl) ?_)
 intro w1 b2 h3 hb4 hn5
 refine RegI.o (OpE.box 6 35 [.slice none 0 0, .int .i64 0, .int .i64 0, .slice none 0 0] h3 (by kernel_rfl) (by kernel_rfl) ?_)
 intro w6 b7 h8 hb9 hn10
 refine RegI.d ?_
 refine RunsI.g 1 [.c 3, .c 4] ?_
 refine RunsI.r ?_
 refine RegI.p 1 [(1, .int .i64 p1), (2, .int .u8 p2), (3, .pointer (some ⟨b2, 0, none⟩)), (6, .pointer (some ⟨b7, 0, none⟩)), (7, .slice none 0 0)] ?_
 refine RegI.d ?_
 refine RunsI.g 1 [.c 5, .c 6] ?_
 refine RunsI.r ?_
 refine RegI.p 3 [(1, .int .i64 p1), (2, .int .u8 p2), (3, .pointer (some ⟨b2, 0, none⟩)), (6, .pointer (some ⟨b7, 0, none⟩)), (7, .slice none 0 0), (8, .bool (p2 == 0))] ?_
 refine RegI.d ?_
 refine RunsI.g 2 [.c 8, .c 9, .c 35] ?_
 refine RunsI.r ?_
 refine RegI.p 1 [(1, .int .i64 p1), (2, .int .u8 p2), (3, .pointer (some ⟨b2, 0, none⟩)), (6, .pointer (some ⟨b7, 0, none⟩)), (7, .slice none 0 0), (8, .bool (p2 == 0)), (9, .int .i64 0)] ?_
 refine RegI.d ?_
 refine RunsI.g 2 [.c 11, .lp 11, .blk 0, .c 35] ?_
 obtain ⟨x78, hx79, h⟩ := of_bind h
 have h11 := h8.addOwnNil (Rp.pair (Rp.int .i64) (Rp.int .u8)) 65
 refine RunsI.l [1, 2, 3, 6, 7, 8, 9] [(1, .int .i64 p1), (2, .int .u8 p2), (3, .pointer (some ⟨b2, 0, none⟩)), (6, .pointer (some ⟨b7, 0, none⟩)), (7, .slice none (([] : List (Int × Int)).length) 0), (8, .bool (p2 == 0)), (9, .int .i64 0)] ?_
 refine charabancref19_put_65.l0_ok K M0 w0 pA0_0 pc0_0 pA0_3 pc0_3 p0_0 p0_1 p0_2 p0_3 p1 p2 b2 b7 _ x78 ?_ K ([] : List (Int × Int)) (p2 == 0) 0 none 0 w6 hx79 (h11.pick [2, 0, 1, 3, 4] (by decide))
 ·intro t82 t83 A80 c81 w85 hq110 h84
  (try rw [hq110] at h)
  dsimp only at h
  refine RunsI.g 2 [.c 37, .c 38, .c 41] ?_
  refine RunsI.r ?_
  refine RegI.p 2 [(1, .int .i64 p1), (2, .int .u8 p2), (3, .pointer (some ⟨b2, 0, none⟩)), (6, .pointer (some ⟨b7, 0, none⟩)), (7, .slice A80 t82.length c81), (48, .bool (!t83))] ?_
  refine RegI.d ?_
  rcases of_cond h with ⟨hc86, h⟩ | ⟨hc86, h⟩
  ·skip
   refine RunsI.f 48 true hc86 ?_
   refine RunsI.b true 39 ?_
   refine RunsI.r ?_
   refine RegI.p 4 [(3, .pointer (some ⟨b2, 0, none⟩)), (6, .pointer (some ⟨b7, 0, none⟩)), (49, .slice A80 t82.length c81), (52, .agg #[.int .i64 p1, .int .u8 p2])] ?_
   refine RegI.o (OpE.lit 53 65 [.int .i64 p1, .int .u8 p2] 1 h84 (by kernel_rfl) (by kernel_rfl) ?_)
   intro w87 b88 h89 hb90 hn91
   obtain ⟨hc92, h⟩ := of_cond0 h
   refine RegI.o (OpE.appendBox 54 4 5 33 65 16 ([(p1, p2)] : List (Int × Int)) 0 h89 (by kernel_rfl) (by kernel_rfl) (by kernel_rfl) rfl rfl rfl (⟨[_, _], _, rfl, ⟨[_], [_], rfl, rfl, rfl⟩, rfl⟩) hc92 ?_)
   intro w93 A94 c95 h96 hk97
   refine RegI.p 1 [(3, .pointer (some ⟨b2, 0, none⟩)), (6, .pointer (some ⟨b7, 0, none⟩)), (7, .slice A94 ((t82 ++ ([(p1, p2)] : List (Int × Int))).length) c95)] ?_
   refine RegI.d ?_
   refine RunsI.g 1 [.c 42, .c 43] ?_
   refine RunsI.r ?_
   refine RegI.p 2 [(3, .pointer (some ⟨b2, 0, none⟩)), (6, .pointer (some ⟨b7, 0, none⟩)), (55, .slice A94 ((t82 ++ ([(p1, p2)] : List (Int × Int))).length) c95), (56, .pointer (some ⟨b2, 3, none⟩))] ?_
   refine RegI.o (OpE.storeBox 0 33 b2 3 (.slice A94 ((t82 ++ ([(p1, p2)] : List (Int × Int))).length) c95) [.slice pA0_0 p0_0.length pc0_0, .int .i64 p0_1, .int .i64 p0_2, .slice A94 ((t82 ++ ([(p1, p2)] : List (Int × Int))).length) c95] h96 (by kernel_rfl) (by kernel_rfl) rfl (by kernel_rfl) (by kernel_rfl) (by kernel_rfl) ?_)
   intro w98 h99 hk100
   refine RegI.d ?_
   refine RunsI.g 1 [.c 44, .c 45] ?_
   refine RunsI.r ?_
   refine RegI.o (OpE.loadBox 57 0 35 b2 0 (.agg #[.slice pA0_0 p0_0.length pc0_0, .int .i64 p0_1, .int .i64 p0_2, .slice A94 ((t82 ++ ([(p1, p2)] : List (Int × Int))).length) c95]) h99 (by kernel_rfl) (by kernel_rfl) rfl (by kernel_rfl) ?_)
   refine RegI.o (OpE.storeBox 3 35 b7 0 (.agg #[.slice pA0_0 p0_0.length pc0_0, .int .i64 p0_1, .int .i64 p0_2, .slice A94 ((t82 ++ ([(p1, p2)] : List (Int × Int))).length) c95]) [.slice pA0_0 p0_0.length pc0_0, .int .i64 p0_1, .int .i64 p0_2, .slice A94 ((t82 ++ ([(p1, p2)] : List (Int × Int))).length) c95] h99 (by kernel_rfl) (by kernel_rfl) rfl (by kernel_rfl) (by kernel_rfl) (by kernel_rfl) ?_)
   intro w101 h102 hk103
   refine RegI.d ?_
   refine RunsI.toRet (by kernel_rfl) ?_
   refine RetI.valW [.cell 6 35] [.agg #[.slice pA0_0 p0_0.length pc0_0, .int .i64 p0_1, .int .i64 p0_2, .slice A94 ((t82 ++ ([(p1, p2)] : List (Int × Int))).length) c95]] (.agg #[.slice pA0_0 p0_0.length pc0_0, .int .i64 p0_1, .int .i64 p0_2, .slice A94 ((t82 ++ ([(p1, p2)] : List (Int × Int))).length) c95]) (by kernel_rfl) (ResAt.box 3 35 b7 0 h102 (by kernel_rfl) (by kernel_rfl) rfl (by kernel_rfl) rfl) (by kernel_rfl) ?_
   obtain rfl := Option.some.inj h
   exact ⟨pA0_0, pc0_0, A94, c95, rfl, h102.pick [1, 4] (by decide)⟩
  ·skip
   refine RunsI.f 48 false hc86 ?_
   refine RunsI.b false 40 ?_
   refine RunsI.g 1 [.c 41] ?_
   refine RunsI.g 1 [.c 42, .c 43] ?_
   refine RunsI.r ?_
   refine RegI.p 2 [(3, .pointer (some ⟨b2, 0, none⟩)), (6, .pointer (some ⟨b7, 0, none⟩)), (55, .slice A80 t82.length c81), (56, .pointer (some ⟨b2, 3, none⟩))] ?_
   refine RegI.o (OpE.storeBox 0 33 b2 3 (.slice A80 t82.length c81) [.slice pA0_0 p0_0.length pc0_0, .int .i64 p0_1, .int .i64 p0_2, .slice A80 t82.length c81] h84 (by kernel_rfl) (by kernel_rfl) rfl (by kernel_rfl) (by kernel_rfl) (by kernel_rfl) ?_)
   intro w104 h105 hk106
   refine RegI.d ?_
   refine RunsI.g 1 [.c 44, .c 45] ?_
   refine RunsI.r ?_
   refine RegI.o (OpE.loadBox 57 0 35 b2 0 (.agg #[.slice pA0_0 p0_0.length pc0_0, .int .i64 p0_1, .int .i64 p0_2, .slice A80 t82.length c81]) h105 (by kernel_rfl) (by kernel_rfl) rfl (by kernel_rfl) ?_)
   refine RegI.o (OpE.storeBox 3 35 b7 0 (.agg #[.slice pA0_0 p0_0.length pc0_0, .int .i64 p0_1, .int .i64 p0_2, .slice A80 t82.length c81]) [.slice pA0_0 p0_0.length pc0_0, .int .i64 p0_1, .int .i64 p0_2, .slice A80 t82.length c81] h105 (by kernel_rfl) (by kernel_rfl) rfl (by kernel_rfl) (by kernel_rfl) (by kernel_rfl) ?_)
   intro w107 h108 hk109
   refine RegI.d ?_
   refine RunsI.toRet (by kernel_rfl) ?_
   refine RetI.valW [.cell 6 35] [.agg #[.slice pA0_0 p0_0.length pc0_0, .int .i64 p0_1, .int .i64 p0_2, .slice A80 t82.length c81]] (.agg #[.slice pA0_0 p0_0.length pc0_0, .int .i64 p0_1, .int .i64 p0_2, .slice A80 t82.length c81]) (by kernel_rfl) (ResAt.box 3 35 b7 0 h108 (by kernel_rfl) (by kernel_rfl) rfl (by kernel_rfl) rfl) (by kernel_rfl) ?_
   obtain rfl := Option.some.inj h
   exact ⟨pA0_0, pc0_0, A80, c81, rfl, h108.pick [1, 4] (by decide)⟩
end

/-! ### charabanc/charabancref19.Load (function 47) -/
section
def charabancref19_Load_47.post (M0 : Nat → Prop) (w0 : World) (r : (List Int) × Int × Int × (List (Int × Int))) : Ending → World → Prop := fun e w => ∃ (A1 : Option Addr) (c1 : Nat) (A4 : Option Addr) (c4 : Nat), e = .returned (.agg #[.slice A1 r.1.length c1, .int .i64 r.2.1, .int .i64 r.2.2.1, .slice A4 r.2.2.2.length c4]) ∧ Holds M0 w0 w [sl (Rp.int .u8) (.slice A1 r.1.length c1) r.1, sl (Rp.pair (Rp.int .i64) (Rp.int .u8)) (.slice A4 r.2.2.2.length c4) r.2.2.2]
def charabancref19_Load_47.l0 (K : Nat) (p0_0 : List Int) (p0_1 : Int) (p0_2 : Int) (p0_3 : List (Int × Int)) (p1 : Int) (p2 : List Int) : Nat → (List Int) → Int → Int → (List (Int × Int)) → Int → Option ((List Int) × Int × Int × (List (Int × Int)))
 | 0, _, _, _, _, _ => none
 | k + 1, t14, t15, t16, t19, t21 => cond (decide (t21 < (p2.length : Int))) (cond (inR t21 p2.length) ((charabancref19_put_65.f K t14 t15 t16 t19 (IntKind.wrap .i64 (p1 + t21)) (rdD p2 t21)).bind fun yt41 => charabancref19_Load_47.l0 K p0_0 p0_1 p0_2 p0_3 p1 p2 k yt41.1 yt41.2.1 yt41.2.2.1 yt41.2.2.2 (IntKind.wrap .i64 (t21 + 1))) none) (some (t14, t15, t16, t19))
set_option maxRecDepth 100000 in
theorem charabancref19_Load_47.l0_ok (K : Nat) (M0 : Nat → Prop) (w0 : World) (pA0_0 : Option Addr) (pc0_0 : Nat) (pA0_3 : Option Addr) (pc0_3 : Nat) (pA2 : Option Addr) (pc2 : Nat) (p0_0 : List Int) (p0_1 : Int) (p0_2 : Int) (p0_3 : List (Int × Int)) (p1 : Int) (p2 : List Int) (b11 : Nat) (b20 : Nat) (R : Ending → World → Prop) (x : (List Int) × Int × Int × (List (Int × Int))) (hk0 : ∀ (t67 : List Int) (t68 : Int) (t69 : Int) (t72 : List (Int × Int)) (A65 : Option Addr) (c66 : Nat) (A70 : Option Addr) (c71 : Nat) (w1 : World), x = (t67, t68, t69, t72) → Holds M0 w0 w1 [box b11 35 [.slice A65 t67.length c66, .int .i64 t68, .int .i64 t69, .slice A70 t72.length c71], sl (Rp.int .u8) (.slice A65 t67.length c66) t67, sl (Rp.pair (Rp.int .i64) (Rp.int .u8)) (.slice A70 t72.length c71) t72, box b20 35 [.slice none 0 0, .int .i64 0, .int .i64 0, .slice none 0 0]] → RunsI F47 [.c 17] [(3, .pointer (some ⟨b11, 0, none⟩)), (6, .pointer (some ⟨b20, 0, none⟩))] w1 R) :
  ∀ (k : Nat) (t14 : List Int) (t15 : Int) (t16 : Int) (t19 : List (Int × Int)) (t21 : Int) (A12 : Option Addr) (c13 : Nat) (A17 : Option Addr) (c18 : Nat) (w : World), charabancref19_Load_47.l0 K p0_0 p0_1 p0_2 p0_3 p1 p2 k t14 t15 t16 t19 t21 = some x → Holds M0 w0 w [sl (Rp.int .u8) (.slice pA2 p2.length pc2) p2, box b11 35 [.slice A12 t14.length c13, .int .i64 t15, .int .i64 t16, .slice A17 t19.length c18], sl (Rp.int .u8) (.slice A12 t14.length c13) t14, sl (Rp.pair (Rp.int .i64) (Rp.int .u8)) (.slice A17 t19.length c18) t19, box b20 35 [.slice none 0 0, .int .i64 0, .int .i64 0, .slice none 0 0]] → RunsI F47 [.c 7, .lp 7, .blk 0, .c 17] [(1, .int .i64 p1), (2, .slice pA2 p2.length pc2), (3, .pointer (some ⟨b11, 0, none⟩)), (6, .pointer (some ⟨b20, 0, none⟩)), (7, .int .i64 t21)] w R := by
 intro k
 induction k with
 | zero => intro t14 t15 t16 t19 t21 A12 c13 A17 c18 w h hH; exact absurd h (by simp [charabancref19_Load_47.l0])
 | succ k ih =>
  intro t14 t15 t16 t19 t21 A12 c13 A17 c18 w h hH
  rw [charabancref19_Load_47.l0.eq_2] at h
  refine RunsI.g 1 [.c 8, .c 13, .lp 7, .blk 0, .c 17] ?_
  refine RunsI.g 1 [.c 9, .c 10, .c 13, .lp 7, .blk 0, .c 17] ?_
  refine RunsI.r ?_
  refine RegI.p 4 [(1, .int .i64 p1), (2, .slice pA2 p2.length pc2), (3, .pointer (some ⟨b11, 0, none⟩)), (6, .pointer (some ⟨b20, 0, none⟩)), (7, .int .i64 t21), (11, .bool (decide (t21 < (p2.length : Int))))] ?_
  refine RegI.d ?_
  rcases of_cond h with ⟨hc22, h⟩ | ⟨hc22, h⟩
  ·skip
   refine RunsI.f 11 true hc22 ?_
   refine RunsI.b true 11 ?_
   refine RunsI.g 1 [.c 13, .lp 7, .blk 0, .c 17] ?_
   refine RunsI.g 2 [.c 15, .blk 1, .c 16, .lp 7, .blk 0, .c 17] ?_
   refine RunsI.any 10 (by kernel_rfl) (by kernel_rfl) (by kernel_rfl) (Kp ([] : List Nat) (World.drew w)) ?_
   have h24 := hH.drew
   generalize World.drew w = w23 at h24 ⊢
   have hS25 := Kp.refl ([] : List Nat) w23
   refine AnyE.loadBox 0 14 1 35 b11 0 (.agg #[.slice A12 t14.length c13, .int .i64 t15, .int .i64 t16, .slice A17 t19.length c18]) [] h24 rfl (by kernel_rfl) hS25 rfl rfl (by kernel_rfl) (by kernel_rfl) ?_
   refine AnyE.pure 1 15 (.int .i64 p1) (by kernel_rfl) hS25 (fun _ => by kernel_rfl) ?_
   refine AnyE.pure 2 16 (.int .i64 t21) (by kernel_rfl) hS25 (fun _ => by kernel_rfl) ?_
   refine AnyE.pure 3 17 (.int .i64 (IntKind.wrap .i64 (p1 + t21))) (by kernel_rfl) hS25 (fun _ => by kernel_rfl) ?_
   refine AnyE.pure 4 18 (.slice pA2 p2.length pc2) (by kernel_rfl) hS25 (fun _ => by kernel_rfl) ?_
   refine AnyE.pure 5 19 (.int .i64 t21) (by kernel_rfl) hS25 (fun _ => by kernel_rfl) ?_
   obtain ⟨hc27, h⟩ := of_cond0 h
   refine AnyE.idxSl 6 20 0 22 t21 h24 (by kernel_rfl) hS25 rfl (by kernel_rfl) (by kernel_rfl) hc27 ?_
   intro b28 o29 cs30 hk31 h32
   obtain rfl := hk31
   refine AnyE.loadCel 7 21 5 5 b28 o29 0 (.int .u8 (rdD p2 t21)) [] h32 rfl (by kernel_rfl) hS25 rfl rfl (by kernel_rfl) (by kernel_rfl) ?_
   refine AnyE.one 8 (by kernel_rfl) (fun w33 hu34 => ?_)
   have h35 := h32.call hu34
   have hS36 := hS25.up hu34
   obtain ⟨⟨t41, t45, t46, t47⟩, hg40, h⟩ := of_bind h
   dsimp only at h
   refine OpE.call 22 (by kernel_rfl) 65 #[.agg #[.slice A12 t14.length c13, .int .i64 t15, .int .i64 t16, .slice A17 t19.length c18], .int .i64 (IntKind.wrap .i64 (p1 + t21)), .int .u8 (rdD p2 t21)] (by kernel_rfl) ((charabancref19_put_65_ok K _ w33  A12 c13 A17 c18 t14 t15 t16 t19 (IntKind.wrap .i64 (p1 + t21)) (rdD p2 t21) h35.old' (h35.get 2 rfl) (h35.get 3 rfl) hg40).mono ?_)
   rintro _ w37 ⟨A42, c43, A48, c49, rfl, hr51⟩
   refine ⟨_, rfl, ?_⟩
   have hb38 := hr51.below
   have h39 := h35.join hr51
   have hS52 := hS36.up hb38
   refine ⟨hS52, ?_⟩
   refine AnyE.last 9 (by kernel_rfl) (by kernel_rfl) (fun w53 hu54 => ?_)
   have h55 := h39.call hu54
   have hS56 := hS52.up hu54
   refine OpE.storeBox 1 35 b11 0 (.agg #[.slice A42 t41.length c43, .int .i64 t45, .int .i64 t46, .slice A48 t47.length c49]) [.slice A42 t41.length c43, .int .i64 t45, .int .i64 t46, .slice A48 t47.length c49] h55 (by kernel_rfl) (by kernel_rfl) rfl (by kernel_rfl) (by kernel_rfl) (by kernel_rfl) ?_
   intro w57 h58 hk59
   refine AnyE.done (by kernel_rfl) (fun w61 hu62 => ?_)
   have h63 := h58.call hu62
   refine RunsI.l [1, 2, 3, 6, 7] [(1, .int .i64 p1), (2, .slice pA2 p2.length pc2), (3, .pointer (some ⟨b11, 0, none⟩)), (6, .pointer (some ⟨b20, 0, none⟩)), (7, .int .i64 t21)] ?_
   refine RunsI.g 1 [.c 16, .lp 7, .blk 0, .c 17] ?_
   refine RunsI.r ?_
   refine RegI.p 3 [(1, .int .i64 p1), (2, .slice pA2 p2.length pc2), (3, .pointer (some ⟨b11, 0, none⟩)), (6, .pointer (some ⟨b20, 0, none⟩)), (7, .int .i64 (IntKind.wrap .i64 (t21 + 1)))] ?_
   refine RegI.d ?_
   refine RunsI.g 1 [.c 7, .lp 7, .blk 0, .c 17] ?_
   have h64 := h63.release 7 rfl
   refine RunsI.l [1, 2, 3, 6, 7] [(1, .int .i64 p1), (2, .slice pA2 p2.length pc2), (3, .pointer (some ⟨b11, 0, none⟩)), (6, .pointer (some ⟨b20, 0, none⟩)), (7, .int .i64 (IntKind.wrap .i64 (t21 + 1)))] ?_
   exact ih t41 t45 t46 t47 (IntKind.wrap .i64 (t21 + 1)) A42 c43 A48 c49 w61 h (h64.pick [0, 1, 6, 7, 4] (by decide))
  ·skip
   refine RunsI.f 11 false hc22 ?_
   refine RunsI.b false 12 ?_
   refine RunsI.g 1 [.c 17] ?_
   refine RunsI.l [3, 6] [(3, .pointer (some ⟨b11, 0, none⟩)), (6, .pointer (some ⟨b20, 0, none⟩))] ?_
   exact hk0 t14 t15 t16 t19 A12 c13 A17 c18 w (Option.some.inj h).symm (hH.pick [1, 2, 3, 4] (by decide))
def charabancref19_Load_47.f (K : Nat) (p0_0 : List Int) (p0_1 : Int) (p0_2 : Int) (p0_3 : List (Int × Int)) (p1 : Int) (p2 : List Int) : Option ((List Int) × Int × Int × (List (Int × Int))) := (charabancref19_Load_47.l0 K p0_0 p0_1 p0_2 p0_3 p1 p2 K p0_0 p0_1 p0_2 p0_3 0).bind (fun yx73 => some (yx73.1, yx73.2.1, yx73.2.2.1, yx73.2.2.2))
set_option maxRecDepth 100000 in
theorem charabancref19_Load_47_ok (K : Nat) (M0 : Nat → Prop) (w0 : World) (pA0_0 : Option Addr) (pc0_0 : Nat) (pA0_3 : Option Addr) (pc0_3 : Nat) (pA2 : Option Addr) (pc2 : Nat) (p0_0 : List Int) (p0_1 : Int) (p0_2 : Int) (p0_3 : List (Int × Int)) (p1 : Int) (p2 : List Int) (ho : ∀ b, M0 b → b < w0.heap.size) (hs0_0 : Sl (Rp.int .u8) w0 M0 (.slice pA0_0 p0_0.length pc0_0) p0_0) (hs0_3 : Sl (Rp.pair (Rp.int .i64) (Rp.int .u8)) w0 M0 (.slice pA0_3 p0_3.length pc0_3) p0_3) (hs2 : Sl (Rp.int .u8) w0 M0 (.slice pA2 p2.length pc2) p2) {r : (List Int) × Int × Int × (List (Int × Int))} (h : charabancref19_Load_47.f K p0_0 p0_1 p0_2 p0_3 p1 p2 = some r) :
  Calls Tryd.prog 47 #[.agg #[.slice pA0_0 p0_0.length pc0_0, .int .i64 p0_1, .int .i64 p0_2, .slice pA0_3 p0_3.length pc0_3], .int .i64 p1, .slice pA2 p2.length pc2] w0 (charabancref19_Load_47.post M0 w0 r) := by
 unfold charabancref19_Load_47.f at h
 have h0 : Holds M0 w0 w0 [] := Holds.start ho
 have h00_0 := h0.addSl (Rp.int .u8) (.slice pA0_0 p0_0.length pc0_0) p0_0 (hs0_0.mono (fun _ _ hm => hm.elim id (fun hm => absurd hm (by simp [mines, sl]))))
 have h00_3 := h00_0.addSl (Rp.pair (Rp.int .i64) (Rp.int .u8)) (.slice pA0_3 p0_3.length pc0_3) p0_3 (hs0_3.mono (fun _ _ hm => hm.elim id (fun hm => absurd hm (by simp [mines, sl]))))
 have h02 := h00_3.addSl (Rp.int .u8) (.slice pA2 p2.length pc2) p2 (hs2.mono (fun _ _ hm => hm.elim id (fun hm => absurd hm (by simp [mines, sl]))))
 have h0 : Holds M0 w0 w0 [sl (Rp.int .u8) (.slice pA0_0 p0_0.length pc0_0) p0_0, sl (Rp.pair (Rp.int .i64) (Rp.int .u8)) (.slice pA0_3 p0_3.length pc0_3) p0_3, sl (Rp.int .u8) (.slice pA2 p2.length pc2) p2] := h02
 refine calls_of F47 rfl [.agg #[.slice pA0_0 p0_0.length pc0_0, .int .i64 p0_1, .int .i64 p0_2, .slice pA0_3 p0_3.length pc0_3], .int .i64 p1, .slice pA2 p2.length pc2] (by kernel_rfl) ?_
 refine RunsI.g 1 [.c 1, .c 2] ?_
 refine RunsI.r ?_
 refine RegI.o (OpE.box 3 35 [.slice pA0_0 p0_0.length pc0_0, .int .i64 p0_1, .int .i64 p0_2, .slice pA0_3 p0_3.length pc0_3] h0 (by kernel_rfl) (by kernel_rfl) ?_)
 intro w1 b2 h3 hb4 hn5
 refine RegI.o (OpE.box 6 35 [.slice none 0 0, .int .i64 0, .int .i64 0, .slice none 0 0] h3 (by kernel_rfl) (by kernel_rfl) ?_)
 intro w6 b7 h8 hb9 hn10
 refine RegI.d ?_
 refine RunsI.g 2 [.c 4, .c 5, .c 17] ?_
 refine RunsI.r ?_
 refine RegI.p 1 [(1, .int .i64 p1), (2, .slice pA2 p2.length pc2), (3, .pointer (some ⟨b2, 0, none⟩)), (6, .pointer (some ⟨b7, 0, none⟩)), (7, .int .i64 0)] ?_
 refine RegI.d ?_
 refine RunsI.g 2 [.c 7, .lp 7, .blk 0, .c 17] ?_
 obtain ⟨x73, hx74, h⟩ := of_bind h
 refine RunsI.l [1, 2, 3, 6, 7] [(1, .int .i64 p1), (2, .slice pA2 p2.length pc2), (3, .pointer (some ⟨b2, 0, none⟩)), (6, .pointer (some ⟨b7, 0, none⟩)), (7, .int .i64 0)] ?_
 refine charabancref19_Load_47.l0_ok K M0 w0 pA0_0 pc0_0 pA0_3 pc0_3 pA2 pc2 p0_0 p0_1 p0_2 p0_3 p1 p2 b2 b7 _ x73 ?_ K p0_0 p0_1 p0_2 p0_3 0 pA0_0 pc0_0 pA0_3 pc0_3 w6 hx74 (h8.pick [2, 3, 0, 1, 4] (by decide))
 ·intro t77 t78 t79 t82 A75 c76 A80 c81 w84 hq88 h83
  (try rw [hq88] at h)
  dsimp only at h
  refine RunsI.g 1 [.c 18, .c 19] ?_
  refine RunsI.r ?_
  refine RegI.o (OpE.loadBox 23 0 35 b2 0 (.agg #[.slice A75 t77.length c76, .int .i64 t78, .int .i64 t79, .slice A80 t82.length c81]) h83 (by kernel_rfl) (by kernel_rfl) rfl (by kernel_rfl) ?_)
  refine RegI.o (OpE.storeBox 3 35 b7 0 (.agg #[.slice A75 t77.length c76, .int .i64 t78, .int .i64 t79, .slice A80 t82.length c81]) [.slice A75 t77.length c76, .int .i64 t78, .int .i64 t79, .slice A80 t82.length c81] h83 (by kernel_rfl) (by kernel_rfl) rfl (by kernel_rfl) (by kernel_rfl) (by kernel_rfl) ?_)
  intro w85 h86 hk87
  refine RegI.d ?_
  refine RunsI.toRet (by kernel_rfl) ?_
  refine RetI.valW [.cell 6 35] [.agg #[.slice A75 t77.length c76, .int .i64 t78, .int .i64 t79, .slice A80 t82.length c81]] (.agg #[.slice A75 t77.length c76, .int .i64 t78, .int .i64 t79, .slice A80 t82.length c81]) (by kernel_rfl) (ResAt.box 3 35 b7 0 h86 (by kernel_rfl) (by kernel_rfl) rfl (by kernel_rfl) rfl) (by kernel_rfl) ?_
  obtain rfl := Option.some.inj h
  exact ⟨A75, c76, A80, c81, rfl, h86.pick [1, 2] (by decide)⟩
end
end Go.Proofs.YtbcepghanbkncaaDoor.Im
