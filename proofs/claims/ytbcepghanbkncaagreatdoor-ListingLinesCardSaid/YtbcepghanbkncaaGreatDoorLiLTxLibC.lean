/- Text: the quarters of the plane Plain (and DD and FD), and the plane ED, as lists of bytes. -/
import Derived.Test.YtbcepghanbkncaaGreatDoorLiLTxLibB
set_option linter.unusedVariables false
set_option linter.unusedSimpArgs false
namespace Go.Proofs.YtbcepghanbkncaaGreatDoor.LiL.Tx
open Go.RowKit Go.Eng
theorem cond_i {α : Type} (c : Bool) (a b : α) : cond c a b = if c = true then a else b := by cases c <;> rfl
theorem mk_ba (l : List UInt8) : (⟨l.toArray⟩ : ByteArray) = ba l := rfl
theorem inR_t {i : Int} {n : Nat} (h : 0 ≤ i ∧ i < (n : Int)) : inR i n = true := by simpa [inR] using h
theorem wrap_t {x : Int} (h : -9223372036854775808 ≤ x ∧ x ≤ 9223372036854775807) : IntKind.wrap .i64 x = x := wrap_i64 (by omega) (by omega)
theorem rd_0 {a : ByteArray} {l : List ByteArray} : rdD (a :: l) 0 = a := rfl
theorem rd_1 {a b0 : ByteArray} {l : List ByteArray} : rdD (b0 :: a :: l) 1 = a := rfl
theorem rd_2 {a b0 b1 : ByteArray} {l : List ByteArray} : rdD (b0 :: b1 :: a :: l) 2 = a := rfl
theorem rd_3 {a b0 b1 b2 : ByteArray} {l : List ByteArray} : rdD (b0 :: b1 :: b2 :: a :: l) 3 = a := rfl
theorem rd_4 {a b0 b1 b2 b3 : ByteArray} {l : List ByteArray} : rdD (b0 :: b1 :: b2 :: b3 :: a :: l) 4 = a := rfl
theorem rd_5 {a b0 b1 b2 b3 b4 : ByteArray} {l : List ByteArray} : rdD (b0 :: b1 :: b2 :: b3 :: b4 :: a :: l) 5 = a := rfl
theorem rd_6 {a b0 b1 b2 b3 b4 b5 : ByteArray} {l : List ByteArray} : rdD (b0 :: b1 :: b2 :: b3 :: b4 :: b5 :: a :: l) 6 = a := rfl
theorem rd_7 {a b0 b1 b2 b3 b4 b5 b6 : ByteArray} {l : List ByteArray} : rdD (b0 :: b1 :: b2 :: b3 :: b4 :: b5 :: b6 :: a :: l) 7 = a := rfl
theorem bind_cg {α β : Type} {a b : Option α} {f : α → Option β} (h : a = b) : a.bind f = b.bind f := by rw [h]

def condL : List (List UInt8) := [[110, 122], [122], [110, 99], [99], [112, 111], [112, 101], [112], [109]]
def sumL : List (List UInt8) := [[97, 100, 100, 32, 97, 44], [97, 100, 99, 32, 97, 44], [115, 117, 98, 32], [115, 98, 99, 32, 97, 44], [97, 110, 100, 32], [120, 111, 114, 32], [111, 114, 32], [99, 112, 32]]
def turnL : List (List UInt8) := [[114, 108, 99, 97], [114, 114, 99, 97], [114, 108, 97], [114, 114, 97], [100, 97, 97], [99, 112, 108], [115, 99, 102], [99, 99, 102]]
def lowT (rp : Nat → List UInt8) (rg : Nat → List UInt8) (N NN TO : List UInt8) (y z : Nat) : List UInt8 :=
  match z with
  | 0 => if y > 3 then [106, 114, 32] ++ condL.getD (y - 4) [] ++ [44] ++ TO else [[110, 111, 112], [101, 120, 32, 97, 102, 44, 97, 102, 39], [100, 106, 110, 122, 32] ++ TO, [106, 114, 32] ++ TO].getD y []
  | 1 => if y % 2 = 1 then [97, 100, 100, 32] ++ rp 2 ++ [44] ++ rp (y / 2) else [108, 100, 32] ++ rp (y / 2) ++ [44] ++ NN
  | 2 => [[108, 100, 32, 40, 98, 99, 41, 44, 97], [108, 100, 32, 97, 44, 40, 98, 99, 41], [108, 100, 32, 40, 100, 101, 41, 44, 97], [108, 100, 32, 97, 44, 40, 100, 101, 41], [108, 100, 32] ++ ([40] ++ NN ++ [41]) ++ [44] ++ rp 2, [108, 100, 32] ++ rp 2 ++ [44] ++ ([40] ++ NN ++ [41]), [108, 100, 32] ++ ([40] ++ NN ++ [41]) ++ [44, 97], [108, 100, 32, 97, 44] ++ ([40] ++ NN ++ [41])].getD y []
  | 3 => (if y % 2 = 1 then [100, 101, 99, 32] else [105, 110, 99, 32]) ++ rp (y / 2)
  | 4 => [105, 110, 99, 32] ++ rg y
  | 5 => [100, 101, 99, 32] ++ rg y
  | 6 => [108, 100, 32] ++ rg y ++ [44] ++ N
  | _ => turnL.getD y []
def movesT (rg : Nat → List UInt8) (y z : Nat) : List UInt8 := if y = 6 ∧ z = 6 then [104, 97, 108, 116] else [108, 100, 32] ++ rg y ++ [44] ++ rg z
def sumsT (rg : Nat → List UInt8) (y z : Nat) : List UInt8 := sumL.getD y [] ++ rg z
def highT (rp ra hx : Nat → List UInt8) (N NN : List UInt8) (y z : Nat) : List UInt8 :=
  match z with
  | 0 => [114, 101, 116, 32] ++ condL.getD y []
  | 1 => if y % 2 = 0 then [112, 111, 112, 32] ++ ra (y / 2) else [[114, 101, 116], [101, 120, 120], [106, 112, 32, 40] ++ rp 2 ++ [41], [108, 100, 32, 115, 112, 44] ++ rp 2].getD (y / 2) []
  | 2 => [106, 112, 32] ++ condL.getD y [] ++ [44] ++ NN
  | 3 => [[106, 112, 32] ++ NN, [112, 114, 101, 102, 105, 120], [111, 117, 116, 32, 40] ++ N ++ [41, 44, 97], [105, 110, 32, 97, 44, 40] ++ N ++ [41], [101, 120, 32, 40, 115, 112, 41, 44] ++ rp 2, [101, 120, 32, 100, 101, 44, 104, 108], [100, 105], [101, 105]].getD y []
  | 4 => [99, 97, 108, 108, 32] ++ condL.getD y [] ++ [44] ++ NN
  | 5 => if y % 2 = 0 then [112, 117, 115, 104, 32] ++ ra (y / 2) else if y / 2 = 0 then [99, 97, 108, 108, 32] ++ NN else [112, 114, 101, 102, 105, 120]
  | 6 => sumL.getD y [] ++ N
  | _ => [114, 115, 116, 32] ++ hx (8 * y)
def prL (p : Nat) : List UInt8 := [[98, 99], [100, 101], [104, 108], [115, 112]].getD p []
def oneT (rl pr : Nat → List UInt8) (NN : List UInt8) (y z : Nat) : List UInt8 :=
  match z with
  | 0 => [105, 110, 32] ++ (if y = 6 then [102] else rl y) ++ [44, 40, 99, 41]
  | 1 => [111, 117, 116, 32, 40, 99, 41, 44] ++ (if y = 6 then [48] else rl y)
  | 2 => (if y % 2 = 1 then [97, 100, 99, 32, 104, 108, 44] else [115, 98, 99, 32, 104, 108, 44]) ++ pr (y / 2)
  | 3 => if y % 2 = 1 then [108, 100, 32] ++ pr (y / 2) ++ [44, 40] ++ NN ++ [41] else [108, 100, 32, 40] ++ NN ++ [41, 44] ++ pr (y / 2)
  | 4 => [110, 101, 103]
  | 5 => if y = 1 then [114, 101, 116, 105] else [114, 101, 116, 110]
  | 6 => [105, 109, 32] ++ [[48], [48], [49], [50]].getD (y % 4) []
  | _ => [[108, 100, 32, 105, 44, 97], [108, 100, 32, 114, 44, 97], [108, 100, 32, 97, 44, 105], [108, 100, 32, 97, 44, 114], [114, 114, 100], [114, 108, 100], [110, 111, 112, 42], [110, 111, 112, 42]].getD y []
def twoT (y z : Nat) : List UInt8 :=
  if z < 4 ∧ y > 3 then (if z = 3 ∧ y < 6 then [111, 117, 116] else [[108, 100], [99, 112], [105, 110], [111, 116]].getD z []) ++ [[105], [100], [105, 114], [100, 114]].getD (y - 4) [] else [110, 111, 112, 42]

structure GoP (pl c d imm a b : Int) (rp ra rg hx : Nat → List UInt8) (N NN TO : List UInt8) : Prop where
  gN : ∀ x y z p q, text_shown_n_151.f 1000 pl c d imm a b x y z p q = some (ba N)
  gNN : ∀ x y z p q, text_shown_nn_148.f 1000 pl c d imm a b x y z p q = some (ba NN)
  gTO : ∀ x y z p q, text_shown_to_145.f 1000 pl c d imm a b x y z p q = some (ba TO)
  gR : ∀ x y z p q k, 0 ≤ k ∧ k < 8 → text_shown_reg_150.f 1000 pl c d imm a b x y z p q k = some (ba (rg k.toNat))
  gP : ∀ x y z r q p, 0 ≤ p ∧ p < 4 → text_shown_pair_147.f 1000 pl c d imm a b x y z r q p false = some (ba (rp p.toNat))
  gA : ∀ x y z r q p, 0 ≤ p ∧ p < 4 → text_shown_pair_147.f 1000 pl c d imm a b x y z r q p true = some (ba (ra p.toNat))
  gH : ∀ x y z p q, text_shown_hl_146.f 1000 pl c d imm a b x y z p q = some (ba (rp 2))
  gX : ∀ k, 0 ≤ k ∧ k < 64 → text_Hex_37.f 1000 k 2 = some (ba (hx k.toNat))
structure RefP (pl c d imm a b : Int) (rl pr rp ra rg hx : Nat → List UInt8) (N NN TO : List UInt8) : Prop where
  gN : charabancref09_n_112.f 1000 pl c d imm a b = some (ba N)
  gNN : charabancref09_nn_109.f 1000 pl c d imm a b = some (ba NN)
  gTO : charabancref09_to_110.f 1000 pl c d imm a b = some (ba TO)
  gR : ∀ k, 0 ≤ k ∧ k < 8 → charabancref09_reg_71.f 1000 pl c d imm a b k = some (ba (rg k.toNat))
  gP : ∀ p, 0 ≤ p ∧ p < 4 → charabancref09_pair_108.f 1000 pl c d imm a b p (ba [115, 112]) = some (ba (rp p.toNat))
  gA : ∀ p, 0 ≤ p ∧ p < 4 → charabancref09_pair_108.f 1000 pl c d imm a b p (ba [97, 102]) = some (ba (ra p.toNat))
  gX : ∀ k, 0 ≤ k ∧ k < 64 → charabancref09_Hex_43.f 1000 k 2 = some (ba (hx k.toNat))
  gR0 : ∀ k, 0 ≤ k ∧ k < 8 → charabancref09_reg_71.f 1000 0 0 0 0 0 0 k = some (ba (rl k.toNat))
  gP0 : ∀ p, 0 ≤ p ∧ p < 4 → charabancref09_pair_108.f 1000 0 0 0 0 0 0 p (ba [115, 112]) = some (ba (pr p.toNat))
structure Short (rp ra rg hx : Nat → List UInt8) (N NN TO : List UInt8) : Prop where
  l1 : N.length ≤ 50
  l2 : NN.length ≤ 50
  l3 : TO.length ≤ 50
  lr : ∀ k < 8, (rg k).length ≤ 50
  lp : ∀ k < 4, (rp k).length ≤ 50
  la : ∀ k < 4, (ra k).length ≤ 50
  lx : ∀ k, (hx k).length ≤ 50
section
attribute [local congr] bind_cg
variable {pl c d imm a b : Int} {rl pr rp ra rg hx : Nat → List UInt8} {N NN TO : List UInt8}
set_option maxHeartbeats 4000000 in
theorem goLow (H : GoP pl c d imm a b rp ra rg hx N NN TO) (l : Short rp ra rg hx N NN TO) {x : Int} {y z : Int} (hy : 0 ≤ y ∧ y < 8) (hz : 0 ≤ z ∧ z < 8) :
    text_shown_low_94.f 1000 pl c d imm a b x y z (y / 2) (y % 2) = some (ba (lowT rp rg N NN TO y.toNat z.toNat)) := by
  obtain ⟨gN, gNN, gTO, gR, gP, gA, gH, gX⟩ := H
  obtain ⟨l1, l2, l3, lr, lp, la, lx⟩ := l
  have r0 := lr 0 (by omega); have r1 := lr 1 (by omega); have r2 := lr 2 (by omega); have r3 := lr 3 (by omega); have r4 := lr 4 (by omega); have r5 := lr 5 (by omega); have r6 := lr 6 (by omega); have r7 := lr 7 (by omega)
  have p0 := lp 0 (by omega); have p1 := lp 1 (by omega); have p2 := lp 2 (by omega); have p3 := lp 3 (by omega); have q0 := la 0 (by omega); have q1 := la 1 (by omega); have q2 := la 2 (by omega); have q3 := la 3 (by omega)
  have x0 := lx 0; have x1 := lx 8; have x2 := lx 16; have x3 := lx 24; have x4 := lx 32; have x5 := lx 40; have x6 := lx 48; have x7 := lx 56
  unfold text_shown_low_94.f
  (try simp only [Let])
  (try rw [wrap_t (x := y - 4) (by omega)])
  (try rw [wrap_t (x := z - 4) (by omega)])
  (try rw [wrap_t (x := 8 * y) (by omega)])
  rcases (by omega : y = 0 ∨ y = 1 ∨ y = 2 ∨ y = 3 ∨ y = 4 ∨ y = 5 ∨ y = 6 ∨ y = 7) with rfl | rfl | rfl | rfl | rfl | rfl | rfl | rfl <;> rcases (by omega : z = 0 ∨ z = 1 ∨ z = 2 ∨ z = 3 ∨ z = 4 ∨ z = 5 ∨ z = 6 ∨ z = 7) with rfl | rfl | rfl | rfl | rfl | rfl | rfl | rfl
  all_goals
    (try simp only [Int.reduceSub, Int.reduceDiv, Int.reduceMod])
    simp (disch := first | omega | assumption) only [↓cond_i, ↓reduceIte, Int.reduceSub, Int.reduceMul, Int.reduceDiv, Int.reduceMod, Int.reduceBEq, Int.reduceBNe, Int.reduceGT, Int.reduceLT, Int.reduceToNat, Nat.reduceAdd, BEq.rfl, bne_self_eq_false, Let, decide_true, decide_false, Bool.false_eq_true, Bool.not_true, Bool.not_false, wrap_t, inR_t, mk_ba, gN, gNN, gTO, gR, gP, gA, gH, gX, text_shown_through_149.f, tab_1, tab_2, tab_3, tab_4, tab_5, tab_6, tab_7, tab_8, tab_9, Option.bind_some, ba_app, ba_size, cat_of, List.length_append, List.length_cons, List.length_nil, rd_0, rd_1, rd_2, rd_3, rd_4, rd_5, rd_6, rd_7]
    try rfl
set_option maxHeartbeats 4000000 in
theorem goMoves (H : GoP pl c d imm a b rp ra rg hx N NN TO) (l : Short rp ra rg hx N NN TO) {x : Int} {y z : Int} (hy : 0 ≤ y ∧ y < 8) (hz : 0 ≤ z ∧ z < 8) :
    text_shown_moves_95.f 1000 pl c d imm a b x y z (y / 2) (y % 2) = some (ba (movesT rg y.toNat z.toNat)) := by
  obtain ⟨gN, gNN, gTO, gR, gP, gA, gH, gX⟩ := H
  obtain ⟨l1, l2, l3, lr, lp, la, lx⟩ := l
  have r0 := lr 0 (by omega); have r1 := lr 1 (by omega); have r2 := lr 2 (by omega); have r3 := lr 3 (by omega); have r4 := lr 4 (by omega); have r5 := lr 5 (by omega); have r6 := lr 6 (by omega); have r7 := lr 7 (by omega)
  have p0 := lp 0 (by omega); have p1 := lp 1 (by omega); have p2 := lp 2 (by omega); have p3 := lp 3 (by omega); have q0 := la 0 (by omega); have q1 := la 1 (by omega); have q2 := la 2 (by omega); have q3 := la 3 (by omega)
  have x0 := lx 0; have x1 := lx 8; have x2 := lx 16; have x3 := lx 24; have x4 := lx 32; have x5 := lx 40; have x6 := lx 48; have x7 := lx 56
  unfold text_shown_moves_95.f
  (try simp only [Let])
  (try rw [wrap_t (x := y - 4) (by omega)])
  (try rw [wrap_t (x := z - 4) (by omega)])
  (try rw [wrap_t (x := 8 * y) (by omega)])
  rcases (by omega : y = 0 ∨ y = 1 ∨ y = 2 ∨ y = 3 ∨ y = 4 ∨ y = 5 ∨ y = 6 ∨ y = 7) with rfl | rfl | rfl | rfl | rfl | rfl | rfl | rfl <;> rcases (by omega : z = 0 ∨ z = 1 ∨ z = 2 ∨ z = 3 ∨ z = 4 ∨ z = 5 ∨ z = 6 ∨ z = 7) with rfl | rfl | rfl | rfl | rfl | rfl | rfl | rfl
  all_goals
    (try simp only [Int.reduceSub, Int.reduceDiv, Int.reduceMod])
    simp (disch := first | omega | assumption) only [↓cond_i, ↓reduceIte, Int.reduceSub, Int.reduceMul, Int.reduceDiv, Int.reduceMod, Int.reduceBEq, Int.reduceBNe, Int.reduceGT, Int.reduceLT, Int.reduceToNat, Nat.reduceAdd, BEq.rfl, bne_self_eq_false, Let, decide_true, decide_false, Bool.false_eq_true, Bool.not_true, Bool.not_false, wrap_t, inR_t, mk_ba, gN, gNN, gTO, gR, gP, gA, gH, gX, text_shown_through_149.f, tab_1, tab_2, tab_3, tab_4, tab_5, tab_6, tab_7, tab_8, tab_9, Option.bind_some, ba_app, ba_size, cat_of, List.length_append, List.length_cons, List.length_nil, rd_0, rd_1, rd_2, rd_3, rd_4, rd_5, rd_6, rd_7]
    try rfl
set_option maxHeartbeats 4000000 in
theorem goSums (H : GoP pl c d imm a b rp ra rg hx N NN TO) (l : Short rp ra rg hx N NN TO) {x : Int} {y z : Int} (hy : 0 ≤ y ∧ y < 8) (hz : 0 ≤ z ∧ z < 8) :
    text_shown_sums_96.f 1000 pl c d imm a b x y z (y / 2) (y % 2) = some (ba (sumsT rg y.toNat z.toNat)) := by
  obtain ⟨gN, gNN, gTO, gR, gP, gA, gH, gX⟩ := H
  obtain ⟨l1, l2, l3, lr, lp, la, lx⟩ := l
  have r0 := lr 0 (by omega); have r1 := lr 1 (by omega); have r2 := lr 2 (by omega); have r3 := lr 3 (by omega); have r4 := lr 4 (by omega); have r5 := lr 5 (by omega); have r6 := lr 6 (by omega); have r7 := lr 7 (by omega)
  have p0 := lp 0 (by omega); have p1 := lp 1 (by omega); have p2 := lp 2 (by omega); have p3 := lp 3 (by omega); have q0 := la 0 (by omega); have q1 := la 1 (by omega); have q2 := la 2 (by omega); have q3 := la 3 (by omega)
  have x0 := lx 0; have x1 := lx 8; have x2 := lx 16; have x3 := lx 24; have x4 := lx 32; have x5 := lx 40; have x6 := lx 48; have x7 := lx 56
  unfold text_shown_sums_96.f
  (try simp only [Let])
  (try rw [wrap_t (x := y - 4) (by omega)])
  (try rw [wrap_t (x := z - 4) (by omega)])
  (try rw [wrap_t (x := 8 * y) (by omega)])
  rcases (by omega : y = 0 ∨ y = 1 ∨ y = 2 ∨ y = 3 ∨ y = 4 ∨ y = 5 ∨ y = 6 ∨ y = 7) with rfl | rfl | rfl | rfl | rfl | rfl | rfl | rfl <;> rcases (by omega : z = 0 ∨ z = 1 ∨ z = 2 ∨ z = 3 ∨ z = 4 ∨ z = 5 ∨ z = 6 ∨ z = 7) with rfl | rfl | rfl | rfl | rfl | rfl | rfl | rfl
  all_goals
    (try simp only [Int.reduceSub, Int.reduceDiv, Int.reduceMod])
    simp (disch := first | omega | assumption) only [↓cond_i, ↓reduceIte, Int.reduceSub, Int.reduceMul, Int.reduceDiv, Int.reduceMod, Int.reduceBEq, Int.reduceBNe, Int.reduceGT, Int.reduceLT, Int.reduceToNat, Nat.reduceAdd, BEq.rfl, bne_self_eq_false, Let, decide_true, decide_false, Bool.false_eq_true, Bool.not_true, Bool.not_false, wrap_t, inR_t, mk_ba, gN, gNN, gTO, gR, gP, gA, gH, gX, text_shown_through_149.f, tab_1, tab_2, tab_3, tab_4, tab_5, tab_6, tab_7, tab_8, tab_9, Option.bind_some, ba_app, ba_size, cat_of, List.length_append, List.length_cons, List.length_nil, rd_0, rd_1, rd_2, rd_3, rd_4, rd_5, rd_6, rd_7]
    try rfl
set_option maxHeartbeats 4000000 in
theorem goHigh (H : GoP pl c d imm a b rp ra rg hx N NN TO) (l : Short rp ra rg hx N NN TO) {x : Int} {y z : Int} (hy : 0 ≤ y ∧ y < 8) (hz : 0 ≤ z ∧ z < 8) :
    text_shown_high_97.f 1000 pl c d imm a b x y z (y / 2) (y % 2) = some (ba (highT rp ra hx N NN y.toNat z.toNat)) := by
  obtain ⟨gN, gNN, gTO, gR, gP, gA, gH, gX⟩ := H
  obtain ⟨l1, l2, l3, lr, lp, la, lx⟩ := l
  have r0 := lr 0 (by omega); have r1 := lr 1 (by omega); have r2 := lr 2 (by omega); have r3 := lr 3 (by omega); have r4 := lr 4 (by omega); have r5 := lr 5 (by omega); have r6 := lr 6 (by omega); have r7 := lr 7 (by omega)
  have p0 := lp 0 (by omega); have p1 := lp 1 (by omega); have p2 := lp 2 (by omega); have p3 := lp 3 (by omega); have q0 := la 0 (by omega); have q1 := la 1 (by omega); have q2 := la 2 (by omega); have q3 := la 3 (by omega)
  have x0 := lx 0; have x1 := lx 8; have x2 := lx 16; have x3 := lx 24; have x4 := lx 32; have x5 := lx 40; have x6 := lx 48; have x7 := lx 56
  unfold text_shown_high_97.f
  (try simp only [Let])
  (try rw [wrap_t (x := y - 4) (by omega)])
  (try rw [wrap_t (x := z - 4) (by omega)])
  (try rw [wrap_t (x := 8 * y) (by omega)])
  rcases (by omega : y = 0 ∨ y = 1 ∨ y = 2 ∨ y = 3 ∨ y = 4 ∨ y = 5 ∨ y = 6 ∨ y = 7) with rfl | rfl | rfl | rfl | rfl | rfl | rfl | rfl <;> rcases (by omega : z = 0 ∨ z = 1 ∨ z = 2 ∨ z = 3 ∨ z = 4 ∨ z = 5 ∨ z = 6 ∨ z = 7) with rfl | rfl | rfl | rfl | rfl | rfl | rfl | rfl
  all_goals
    (try simp only [Int.reduceSub, Int.reduceDiv, Int.reduceMod])
    simp (disch := first | omega | assumption) only [↓cond_i, ↓reduceIte, Int.reduceSub, Int.reduceMul, Int.reduceDiv, Int.reduceMod, Int.reduceBEq, Int.reduceBNe, Int.reduceGT, Int.reduceLT, Int.reduceToNat, Nat.reduceAdd, BEq.rfl, bne_self_eq_false, Let, decide_true, decide_false, Bool.false_eq_true, Bool.not_true, Bool.not_false, wrap_t, inR_t, mk_ba, gN, gNN, gTO, gR, gP, gA, gH, gX, text_shown_through_149.f, tab_1, tab_2, tab_3, tab_4, tab_5, tab_6, tab_7, tab_8, tab_9, Option.bind_some, ba_app, ba_size, cat_of, List.length_append, List.length_cons, List.length_nil, rd_0, rd_1, rd_2, rd_3, rd_4, rd_5, rd_6, rd_7]
    try rfl
set_option maxHeartbeats 4000000 in
theorem goOne (H : GoP pl c d imm a b rp ra rg hx N NN TO) (l : Short rp ra rg hx N NN TO) {y z : Int} (hy : 0 ≤ y ∧ y < 8) (hz : 0 ≤ z ∧ z < 8) :
    text_shown_far_98.f 1000 pl c d imm a b 1 y z (y / 2) (y % 2) = some (ba (oneT regL prL NN y.toNat z.toNat)) := by
  obtain ⟨gN, gNN, gTO, gR, gP, gA, gH, gX⟩ := H
  obtain ⟨l1, l2, l3, lr, lp, la, lx⟩ := l
  have r0 := lr 0 (by omega); have r1 := lr 1 (by omega); have r2 := lr 2 (by omega); have r3 := lr 3 (by omega); have r4 := lr 4 (by omega); have r5 := lr 5 (by omega); have r6 := lr 6 (by omega); have r7 := lr 7 (by omega)
  have p0 := lp 0 (by omega); have p1 := lp 1 (by omega); have p2 := lp 2 (by omega); have p3 := lp 3 (by omega); have q0 := la 0 (by omega); have q1 := la 1 (by omega); have q2 := la 2 (by omega); have q3 := la 3 (by omega)
  have x0 := lx 0; have x1 := lx 8; have x2 := lx 16; have x3 := lx 24; have x4 := lx 32; have x5 := lx 40; have x6 := lx 48; have x7 := lx 56
  unfold text_shown_far_98.f
  (try simp only [Let])
  (try rw [wrap_t (x := y - 4) (by omega)])
  (try rw [wrap_t (x := z - 4) (by omega)])
  (try rw [wrap_t (x := 8 * y) (by omega)])
  rcases (by omega : y = 0 ∨ y = 1 ∨ y = 2 ∨ y = 3 ∨ y = 4 ∨ y = 5 ∨ y = 6 ∨ y = 7) with rfl | rfl | rfl | rfl | rfl | rfl | rfl | rfl <;> rcases (by omega : z = 0 ∨ z = 1 ∨ z = 2 ∨ z = 3 ∨ z = 4 ∨ z = 5 ∨ z = 6 ∨ z = 7) with rfl | rfl | rfl | rfl | rfl | rfl | rfl | rfl
  all_goals
    (try simp only [Int.reduceSub, Int.reduceDiv, Int.reduceMod])
    simp (disch := first | omega | assumption) only [↓cond_i, ↓reduceIte, Int.reduceSub, Int.reduceMul, Int.reduceDiv, Int.reduceMod, Int.reduceBEq, Int.reduceBNe, Int.reduceGT, Int.reduceLT, Int.reduceToNat, Nat.reduceAdd, BEq.rfl, bne_self_eq_false, Let, decide_true, decide_false, Bool.false_eq_true, Bool.not_true, Bool.not_false, wrap_t, inR_t, mk_ba, gN, gNN, gTO, gR, gP, gA, gH, gX, text_shown_through_149.f, tab_1, tab_2, tab_3, tab_4, tab_5, tab_6, tab_7, tab_8, tab_9, Option.bind_some, ba_app, ba_size, cat_of, List.length_append, List.length_cons, List.length_nil, rd_0, rd_1, rd_2, rd_3, rd_4, rd_5, rd_6, rd_7]
    try rfl
set_option maxHeartbeats 4000000 in
theorem goTwo (H : GoP pl c d imm a b rp ra rg hx N NN TO) (l : Short rp ra rg hx N NN TO) {y z : Int} (hy : 0 ≤ y ∧ y < 8) (hz : 0 ≤ z ∧ z < 8) :
    text_shown_far_98.f 1000 pl c d imm a b 2 y z (y / 2) (y % 2) = some (ba (twoT y.toNat z.toNat)) := by
  obtain ⟨gN, gNN, gTO, gR, gP, gA, gH, gX⟩ := H
  obtain ⟨l1, l2, l3, lr, lp, la, lx⟩ := l
  have r0 := lr 0 (by omega); have r1 := lr 1 (by omega); have r2 := lr 2 (by omega); have r3 := lr 3 (by omega); have r4 := lr 4 (by omega); have r5 := lr 5 (by omega); have r6 := lr 6 (by omega); have r7 := lr 7 (by omega)
  have p0 := lp 0 (by omega); have p1 := lp 1 (by omega); have p2 := lp 2 (by omega); have p3 := lp 3 (by omega); have q0 := la 0 (by omega); have q1 := la 1 (by omega); have q2 := la 2 (by omega); have q3 := la 3 (by omega)
  have x0 := lx 0; have x1 := lx 8; have x2 := lx 16; have x3 := lx 24; have x4 := lx 32; have x5 := lx 40; have x6 := lx 48; have x7 := lx 56
  unfold text_shown_far_98.f
  (try simp only [Let])
  (try rw [wrap_t (x := y - 4) (by omega)])
  (try rw [wrap_t (x := z - 4) (by omega)])
  (try rw [wrap_t (x := 8 * y) (by omega)])
  rcases (by omega : y = 0 ∨ y = 1 ∨ y = 2 ∨ y = 3 ∨ y = 4 ∨ y = 5 ∨ y = 6 ∨ y = 7) with rfl | rfl | rfl | rfl | rfl | rfl | rfl | rfl <;> rcases (by omega : z = 0 ∨ z = 1 ∨ z = 2 ∨ z = 3 ∨ z = 4 ∨ z = 5 ∨ z = 6 ∨ z = 7) with rfl | rfl | rfl | rfl | rfl | rfl | rfl | rfl
  all_goals
    (try simp only [Int.reduceSub, Int.reduceDiv, Int.reduceMod])
    simp (disch := first | omega | assumption) only [↓cond_i, ↓reduceIte, Int.reduceSub, Int.reduceMul, Int.reduceDiv, Int.reduceMod, Int.reduceBEq, Int.reduceBNe, Int.reduceGT, Int.reduceLT, Int.reduceToNat, Nat.reduceAdd, BEq.rfl, bne_self_eq_false, Let, decide_true, decide_false, Bool.false_eq_true, Bool.not_true, Bool.not_false, wrap_t, inR_t, mk_ba, gN, gNN, gTO, gR, gP, gA, gH, gX, text_shown_through_149.f, tab_1, tab_2, tab_3, tab_4, tab_5, tab_6, tab_7, tab_8, tab_9, Option.bind_some, ba_app, ba_size, cat_of, List.length_append, List.length_cons, List.length_nil, rd_0, rd_1, rd_2, rd_3, rd_4, rd_5, rd_6, rd_7]
    try rfl
set_option maxHeartbeats 4000000 in
theorem refLow (H : RefP pl c d imm a b rl pr rp ra rg hx N NN TO) (l : Short rp ra rg hx N NN TO) {y z : Int} (hy : 0 ≤ y ∧ y < 8) (hz : 0 ≤ z ∧ z < 8) :
    charabancref09_zero_70.f 1000 pl c d imm a b y z (y / 2) (y % 2) = some (ba (lowT rp rg N NN TO y.toNat z.toNat)) := by
  obtain ⟨gN, gNN, gTO, gR, gP, gA, gX, gR0, gP0⟩ := H
  obtain ⟨l1, l2, l3, lr, lp, la, lx⟩ := l
  have r0 := lr 0 (by omega); have r1 := lr 1 (by omega); have r2 := lr 2 (by omega); have r3 := lr 3 (by omega); have r4 := lr 4 (by omega); have r5 := lr 5 (by omega); have r6 := lr 6 (by omega); have r7 := lr 7 (by omega)
  have p0 := lp 0 (by omega); have p1 := lp 1 (by omega); have p2 := lp 2 (by omega); have p3 := lp 3 (by omega); have q0 := la 0 (by omega); have q1 := la 1 (by omega); have q2 := la 2 (by omega); have q3 := la 3 (by omega)
  have x0 := lx 0; have x1 := lx 8; have x2 := lx 16; have x3 := lx 24; have x4 := lx 32; have x5 := lx 40; have x6 := lx 48; have x7 := lx 56
  unfold charabancref09_zero_70.f
  (try simp only [Let])
  (try rw [wrap_t (x := y - 4) (by omega)])
  (try rw [wrap_t (x := z - 4) (by omega)])
  (try rw [wrap_t (x := 8 * y) (by omega)])
  rcases (by omega : y = 0 ∨ y = 1 ∨ y = 2 ∨ y = 3 ∨ y = 4 ∨ y = 5 ∨ y = 6 ∨ y = 7) with rfl | rfl | rfl | rfl | rfl | rfl | rfl | rfl <;> rcases (by omega : z = 0 ∨ z = 1 ∨ z = 2 ∨ z = 3 ∨ z = 4 ∨ z = 5 ∨ z = 6 ∨ z = 7) with rfl | rfl | rfl | rfl | rfl | rfl | rfl | rfl
  all_goals
    (try simp only [Int.reduceSub, Int.reduceDiv, Int.reduceMod])
    simp (disch := first | omega | assumption) only [↓cond_i, ↓reduceIte, Int.reduceSub, Int.reduceMul, Int.reduceDiv, Int.reduceMod, Int.reduceBEq, Int.reduceBNe, Int.reduceGT, Int.reduceLT, Int.reduceToNat, Nat.reduceAdd, BEq.rfl, bne_self_eq_false, Let, decide_true, decide_false, Bool.false_eq_true, Bool.not_true, Bool.not_false, wrap_t, inR_t, mk_ba, gN, gNN, gTO, gR, gP, gA, gX, gR0, gP0, charabancref09_conds_111.f, charabancref09_sums_72.f, Option.bind_some, ba_app, ba_size, cat_of, List.length_append, List.length_cons, List.length_nil, rd_0, rd_1, rd_2, rd_3, rd_4, rd_5, rd_6, rd_7]
    try rfl
set_option maxHeartbeats 4000000 in
theorem refHigh (H : RefP pl c d imm a b rl pr rp ra rg hx N NN TO) (l : Short rp ra rg hx N NN TO) {y z : Int} (hy : 0 ≤ y ∧ y < 8) (hz : 0 ≤ z ∧ z < 8) :
    charabancref09_three_73.f 1000 pl c d imm a b y z (y / 2) (y % 2) = some (ba (highT rp ra hx N NN y.toNat z.toNat)) := by
  obtain ⟨gN, gNN, gTO, gR, gP, gA, gX, gR0, gP0⟩ := H
  obtain ⟨l1, l2, l3, lr, lp, la, lx⟩ := l
  have r0 := lr 0 (by omega); have r1 := lr 1 (by omega); have r2 := lr 2 (by omega); have r3 := lr 3 (by omega); have r4 := lr 4 (by omega); have r5 := lr 5 (by omega); have r6 := lr 6 (by omega); have r7 := lr 7 (by omega)
  have p0 := lp 0 (by omega); have p1 := lp 1 (by omega); have p2 := lp 2 (by omega); have p3 := lp 3 (by omega); have q0 := la 0 (by omega); have q1 := la 1 (by omega); have q2 := la 2 (by omega); have q3 := la 3 (by omega)
  have x0 := lx 0; have x1 := lx 8; have x2 := lx 16; have x3 := lx 24; have x4 := lx 32; have x5 := lx 40; have x6 := lx 48; have x7 := lx 56
  unfold charabancref09_three_73.f
  (try simp only [Let])
  (try rw [wrap_t (x := y - 4) (by omega)])
  (try rw [wrap_t (x := z - 4) (by omega)])
  (try rw [wrap_t (x := 8 * y) (by omega)])
  rcases (by omega : y = 0 ∨ y = 1 ∨ y = 2 ∨ y = 3 ∨ y = 4 ∨ y = 5 ∨ y = 6 ∨ y = 7) with rfl | rfl | rfl | rfl | rfl | rfl | rfl | rfl <;> rcases (by omega : z = 0 ∨ z = 1 ∨ z = 2 ∨ z = 3 ∨ z = 4 ∨ z = 5 ∨ z = 6 ∨ z = 7) with rfl | rfl | rfl | rfl | rfl | rfl | rfl | rfl
  all_goals
    (try simp only [Int.reduceSub, Int.reduceDiv, Int.reduceMod])
    simp (disch := first | omega | assumption) only [↓cond_i, ↓reduceIte, Int.reduceSub, Int.reduceMul, Int.reduceDiv, Int.reduceMod, Int.reduceBEq, Int.reduceBNe, Int.reduceGT, Int.reduceLT, Int.reduceToNat, Nat.reduceAdd, BEq.rfl, bne_self_eq_false, Let, decide_true, decide_false, Bool.false_eq_true, Bool.not_true, Bool.not_false, wrap_t, inR_t, mk_ba, gN, gNN, gTO, gR, gP, gA, gX, gR0, gP0, charabancref09_conds_111.f, charabancref09_sums_72.f, Option.bind_some, ba_app, ba_size, cat_of, List.length_append, List.length_cons, List.length_nil, rd_0, rd_1, rd_2, rd_3, rd_4, rd_5, rd_6, rd_7]
    try rfl
set_option maxHeartbeats 4000000 in
theorem refOne (H : RefP pl c d imm a b rl pr rp ra rg hx N NN TO) (l : Short rp ra rg hx N NN TO) {y z : Int} (hy : 0 ≤ y ∧ y < 8) (hz : 0 ≤ z ∧ z < 8) (g : ∀ k < 8, (rl k).length ≤ 50) (e : ∀ k < 4, (pr k).length ≤ 50) :
    charabancref09_ed_69.f 1000 pl c d imm a b 1 y z (y / 2) (y % 2) = some (ba (oneT rl pr NN y.toNat z.toNat)) := by
  obtain ⟨gN, gNN, gTO, gR, gP, gA, gX, gR0, gP0⟩ := H
  obtain ⟨l1, l2, l3, lr, lp, la, lx⟩ := l
  have r0 := lr 0 (by omega); have r1 := lr 1 (by omega); have r2 := lr 2 (by omega); have r3 := lr 3 (by omega); have r4 := lr 4 (by omega); have r5 := lr 5 (by omega); have r6 := lr 6 (by omega); have r7 := lr 7 (by omega)
  have p0 := lp 0 (by omega); have p1 := lp 1 (by omega); have p2 := lp 2 (by omega); have p3 := lp 3 (by omega); have q0 := la 0 (by omega); have q1 := la 1 (by omega); have q2 := la 2 (by omega); have q3 := la 3 (by omega)
  have x0 := lx 0; have x1 := lx 8; have x2 := lx 16; have x3 := lx 24; have x4 := lx 32; have x5 := lx 40; have x6 := lx 48; have x7 := lx 56
  have g0 := g 0 (by omega); have g1 := g 1 (by omega); have g2 := g 2 (by omega); have g3 := g 3 (by omega); have g4 := g 4 (by omega); have g5 := g 5 (by omega); have g6 := g 6 (by omega); have g7 := g 7 (by omega)
  have e0 := e 0 (by omega); have e1 := e 1 (by omega); have e2 := e 2 (by omega); have e3 := e 3 (by omega)
  unfold charabancref09_ed_69.f
  (try simp only [Let])
  generalize charabancref09_reg_71.f 1000 0 0 0 0 0 0 = F at *
  generalize charabancref09_pair_108.f 1000 0 0 0 0 0 0 = G at *
  (try rw [wrap_t (x := y - 4) (by omega)])
  (try rw [wrap_t (x := z - 4) (by omega)])
  (try rw [wrap_t (x := 8 * y) (by omega)])
  rcases (by omega : y = 0 ∨ y = 1 ∨ y = 2 ∨ y = 3 ∨ y = 4 ∨ y = 5 ∨ y = 6 ∨ y = 7) with rfl | rfl | rfl | rfl | rfl | rfl | rfl | rfl <;> rcases (by omega : z = 0 ∨ z = 1 ∨ z = 2 ∨ z = 3 ∨ z = 4 ∨ z = 5 ∨ z = 6 ∨ z = 7) with rfl | rfl | rfl | rfl | rfl | rfl | rfl | rfl
  all_goals
    (try simp only [Int.reduceSub, Int.reduceDiv, Int.reduceMod])
    (try simp only [↓cond_i, ↓reduceIte, Int.reduceBEq, Int.reduceBNe, bne_self_eq_false, Bool.false_eq_true])
    (try simp only [mk_ba])
    (try simp (disch := omega) only [gR0, gP0, gNN, Int.reduceToNat])
    (try simp only [Option.bind_some])
    (try simp only [ba_app])
    (try simp only [ba_size, List.length_append, List.length_cons, List.length_nil, Nat.reduceAdd])
    (try simp (disch := first | omega | assumption) only [cat_of, inR_t])
    (try simp only [rd_0, rd_1, rd_2, rd_3, rd_4, rd_5, rd_6, rd_7])
    (try simp only [↓reduceIte, ba_app, ba_size, List.length_append, List.length_cons, List.length_nil, Nat.reduceAdd])
    (try simp (disch := first | omega | assumption) only [cat_of, inR_t, ↓reduceIte])
    try rfl
set_option maxHeartbeats 4000000 in
theorem refTwo (H : RefP pl c d imm a b rl pr rp ra rg hx N NN TO) (l : Short rp ra rg hx N NN TO) {y z : Int} (hy : 0 ≤ y ∧ y < 8) (hz : 0 ≤ z ∧ z < 8) :
    charabancref09_ed_69.f 1000 pl c d imm a b 2 y z (y / 2) (y % 2) = some (ba (twoT y.toNat z.toNat)) := by
  obtain ⟨gN, gNN, gTO, gR, gP, gA, gX, gR0, gP0⟩ := H
  obtain ⟨l1, l2, l3, lr, lp, la, lx⟩ := l
  have r0 := lr 0 (by omega); have r1 := lr 1 (by omega); have r2 := lr 2 (by omega); have r3 := lr 3 (by omega); have r4 := lr 4 (by omega); have r5 := lr 5 (by omega); have r6 := lr 6 (by omega); have r7 := lr 7 (by omega)
  have p0 := lp 0 (by omega); have p1 := lp 1 (by omega); have p2 := lp 2 (by omega); have p3 := lp 3 (by omega); have q0 := la 0 (by omega); have q1 := la 1 (by omega); have q2 := la 2 (by omega); have q3 := la 3 (by omega)
  have x0 := lx 0; have x1 := lx 8; have x2 := lx 16; have x3 := lx 24; have x4 := lx 32; have x5 := lx 40; have x6 := lx 48; have x7 := lx 56
  unfold charabancref09_ed_69.f
  (try simp only [Let])
  (try rw [wrap_t (x := y - 4) (by omega)])
  (try rw [wrap_t (x := z - 4) (by omega)])
  (try rw [wrap_t (x := 8 * y) (by omega)])
  rcases (by omega : y = 0 ∨ y = 1 ∨ y = 2 ∨ y = 3 ∨ y = 4 ∨ y = 5 ∨ y = 6 ∨ y = 7) with rfl | rfl | rfl | rfl | rfl | rfl | rfl | rfl <;> rcases (by omega : z = 0 ∨ z = 1 ∨ z = 2 ∨ z = 3 ∨ z = 4 ∨ z = 5 ∨ z = 6 ∨ z = 7) with rfl | rfl | rfl | rfl | rfl | rfl | rfl | rfl
  all_goals
    (try simp only [Int.reduceSub, Int.reduceDiv, Int.reduceMod])
    simp (disch := first | omega | assumption) only [↓cond_i, ↓reduceIte, Int.reduceSub, Int.reduceMul, Int.reduceDiv, Int.reduceMod, Int.reduceBEq, Int.reduceBNe, Int.reduceGT, Int.reduceLT, Int.reduceToNat, Nat.reduceAdd, BEq.rfl, bne_self_eq_false, Let, decide_true, decide_false, Bool.false_eq_true, Bool.not_true, Bool.not_false, wrap_t, inR_t, mk_ba, gN, gNN, gTO, gR, gP, gA, gX, gR0, gP0, charabancref09_conds_111.f, charabancref09_sums_72.f, Option.bind_some, ba_app, ba_size, cat_of, List.length_append, List.length_cons, List.length_nil, rd_0, rd_1, rd_2, rd_3, rd_4, rd_5, rd_6, rd_7]
    try rfl
end
end Go.Proofs.YtbcepghanbkncaaGreatDoor.LiL.Tx
