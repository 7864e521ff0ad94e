/- Text: templates with marks in the places of numbers, what differs in them differs in the texts, and IX beside IY. -/
import Derived.Test.YtilgjfckgkkfmaaDoorTexLibE
set_option linter.unusedVariables false
set_option linter.unusedSimpArgs false
namespace Go.Proofs.YtilgjfckgkkfmaaDoor.Tex
open Go.RowKit Go.Eng
/-- What stands for a mark. -/
def fillU (N NN TO SG : List UInt8) (X : UInt8) (u : UInt8) : List UInt8 :=
  if u < 128 then [u] else if u = 200 then [N.getD 0 0] else if u = 201 then [N.getD 1 0] else if u = 202 then [N.getD 2 0]
  else if u = 210 then [NN.getD 0 0] else if u = 211 then [NN.getD 1 0] else if u = 212 then [NN.getD 2 0] else if u = 213 then [NN.getD 3 0] else if u = 214 then [NN.getD 4 0]
  else if u = 230 then [X] else if u = 220 then TO else if u = 221 then SG else [u]
theorem fill_lit (N NN TO SG : List UInt8) (X : UInt8) {u : UInt8} (h : u < 128) : fillU N NN TO SG X u = [u] := by unfold fillU; rw [if_pos h]
theorem fill_one (N NN TO SG : List UInt8) (X : UInt8) {u : UInt8} (h : u ≠ 220) (h2 : u ≠ 221) : ∃ v, fillU N NN TO SG X u = [v] := by
  unfold fillU
  repeat' split
  all_goals first | exact ⟨_, rfl⟩ | contradiction
theorem lSum : ∀ y < 8, (sumL.getD y []).all (fun u => decide (u < 128)) = true := by decide
section
variable {σ : UInt8 → List UInt8} (hσ : ∀ u : UInt8, u < 128 → σ u = [u])
include hσ
theorem lit : ∀ {l : List UInt8}, l.all (fun u => decide (u < 128)) = true → l.flatMap σ = l
  | [], _ => rfl
  | u :: l, h => by
    rw [List.all_cons, Bool.and_eq_true] at h
    rw [List.flatMap_cons, hσ u (by simpa using h.1), lit h.2]; rfl
variable {rp ra rg hx : Nat → List UInt8} {N NN TO : List UInt8} {y z : Nat}
theorem fmLow (hy : y < 8) (hz : z < 8) : (lowT rp rg N NN TO y z).flatMap σ = lowT (fun p => (rp p).flatMap σ) (fun p => (rg p).flatMap σ) (N.flatMap σ) (NN.flatMap σ) (TO.flatMap σ) y z := by
  have l := @lit σ hσ
  rcases (by omega : z = 0 ∨ z = 1 ∨ z = 2 ∨ z = 3 ∨ z = 4 ∨ z = 5 ∨ z = 6 ∨ z = 7) with rfl | rfl | rfl | rfl | rfl | rfl | rfl | rfl
  all_goals rcases (by omega : y = 0 ∨ y = 1 ∨ y = 2 ∨ y = 3 ∨ y = 4 ∨ y = 5 ∨ y = 6 ∨ y = 7) with rfl | rfl | rfl | rfl | rfl | rfl | rfl | rfl
  all_goals simp (disch := decide) only [lowT, condL, turnL, List.getD_cons_zero, List.getD_cons_succ, Nat.reduceSub, Nat.reduceMod, Nat.reduceDiv, Nat.reduceGT, Nat.reduceLT, Nat.reduceEqDiff, reduceIte, List.flatMap_append, l]
theorem fmMoves (hy : y < 8) (hz : z < 8) : (movesT rg y z).flatMap σ = movesT (fun p => (rg p).flatMap σ) y z := by
  have l := @lit σ hσ
  unfold movesT
  split
  · exact l (by decide)
  · simp (disch := decide) only [List.flatMap_append, l]
theorem fmSums (hy : y < 8) (hz : z < 8) : (sumsT rg y z).flatMap σ = sumsT (fun p => (rg p).flatMap σ) y z := by
  unfold sumsT
  rw [List.flatMap_append, lit hσ (lSum y hy)]
theorem fmHigh (hhx : ∀ y < 8, (hx (8 * y)).flatMap σ = hx (8 * y)) (hy : y < 8) (hz : z < 8) : (highT rp ra hx N NN y z).flatMap σ = highT (fun p => (rp p).flatMap σ) (fun p => (ra p).flatMap σ) hx (N.flatMap σ) (NN.flatMap σ) y z := by
  have l := @lit σ hσ
  have hx' := hhx y hy
  rcases (by omega : z = 0 ∨ z = 1 ∨ z = 2 ∨ z = 3 ∨ z = 4 ∨ z = 5 ∨ z = 6 ∨ z = 7) with rfl | rfl | rfl | rfl | rfl | rfl | rfl | rfl
  all_goals rcases (by omega : y = 0 ∨ y = 1 ∨ y = 2 ∨ y = 3 ∨ y = 4 ∨ y = 5 ∨ y = 6 ∨ y = 7) with rfl | rfl | rfl | rfl | rfl | rfl | rfl | rfl
  all_goals simp (disch := decide) only [highT, condL, sumL, List.getD_cons_zero, List.getD_cons_succ, Nat.reduceMod, Nat.reduceDiv, Nat.reduceEqDiff, Nat.reduceMul, reduceIte, List.flatMap_append, l, hx']
theorem fmQuar (hhx : ∀ y < 8, (hx (8 * y)).flatMap σ = hx (8 * y)) (hy : y < 8) (hz : z < 8) (x : Nat) : (quarT rp ra rg hx N NN TO x y z).flatMap σ = quarT (fun p => (rp p).flatMap σ) (fun p => (ra p).flatMap σ) (fun p => (rg p).flatMap σ) hx (N.flatMap σ) (NN.flatMap σ) (TO.flatMap σ) x y z := by
  unfold quarT
  split
  · exact fmLow hσ hy hz
  · split
    · exact fmMoves hσ hy hz
    · split
      · exact fmSums hσ hy hz
      · exact fmHigh hσ hhx hy hz
end
/-- The template of a code of the plane Plain, and of one that goes through IX or IY. -/
def mk0 (c : Nat) : List UInt8 := quarT prL (fun p => pairT 0 p af) regL hxT [200, 201, 202] [210, 211, 212, 213, 214] [36, 220] (c / 64) (c / 8 % 8) (c % 8)
def rpM (last : List UInt8) (p : Nat) : List UInt8 := if p = 2 then [105, 230] else [[98, 99], [100, 101], [104, 108], last].getD p []
def rgM (c : Nat) (k : Nat) : List UInt8 := if k = 6 then [40, 105, 230, 221, 41] else if (k = 4 ∨ k = 5) ∧ nearC (c : Int) = false then [105, 230] ++ regL k else regL k
def mkI (c : Nat) : List UInt8 := quarT (rpM sp) (rpM af) (rgM c) hxT [200, 201, 202] [210, 211, 212, 213, 214] [36, 220] (c / 64) (c / 8 % 8) (c % 8)
theorem len3 {l : List UInt8} (h : l.length = 3) : [l.getD 0 0, l.getD 1 0, l.getD 2 0] = l := by
  match l, h with
  | [a, b, c], _ => rfl
theorem len5 {l : List UInt8} (h : l.length = 5) : [l.getD 0 0, l.getD 1 0, l.getD 2 0, l.getD 3 0, l.getD 4 0] = l := by
  match l, h with
  | [a, b, c, d, e], _ => rfl
theorem n_len3 {imm : Int} (h : 0 ≤ imm) : (nT imm).length = 3 := by
  have key : (List.range 256).all (fun n => (hexT (n : Int) 2).length == 3) = true := by kernel_rfl
  have := codes (fun n => (hexT n 2).length == 3) key (c := imm % 256) (by omega) (by omega)
  simpa [nT] using this
theorem hexL_len {u : Nat} (h : u < 65536) : (hexL u).length ≤ 4 := by
  unfold hexL
  rw [numL_more (by omega) 3 16 u (by omega) (by omega)]
  exact (numL_len 16 3 u).2
theorem nn_len5 {imm : Int} (h1 : 0 ≤ imm) (h2 : imm < 65536) : (nnT imm).length = 5 := by
  have := hexL_len (u := imm.natAbs) (by omega)
  unfold nnT hexT
  rw [if_neg (by omega), List.length_append, List.length_append, List.length_append, List.length_replicate, List.length_cons, List.length_nil, show least 4 = 4 from rfl]
  omega
def sig (imm d : Int) (X : UInt8) : UInt8 → List UInt8 := fillU (nT imm) (nnT imm) (sgnT (sgd (imm % 256) + 2)) (sgnT (sgd d)) X
theorem sig_lit (imm d : Int) (X : UInt8) (u : UInt8) (h : u < 128) : sig imm d X u = [u] := fill_lit _ _ _ _ _ h
theorem hx_lit (y : Nat) (h : y < 8) : (hxT (8 * y)).all (fun u => decide (u < 128)) = true := by
  rcases (by omega : y = 0 ∨ y = 1 ∨ y = 2 ∨ y = 3 ∨ y = 4 ∨ y = 5 ∨ y = 6 ∨ y = 7) with rfl | rfl | rfl | rfl | rfl | rfl | rfl | rfl <;> kernel_rfl
theorem reg_lit (k : Nat) : (regL k).all (fun u => decide (u < 128)) = true := by
  by_cases h : k < 8
  · rcases (by omega : k = 0 ∨ k = 1 ∨ k = 2 ∨ k = 3 ∨ k = 4 ∨ k = 5 ∨ k = 6 ∨ k = 7) with rfl | rfl | rfl | rfl | rfl | rfl | rfl | rfl <;> decide
  · obtain ⟨j, rfl⟩ : ∃ j, k = j + 8 := ⟨k - 8, by omega⟩
    rfl
theorem rp_lit (last : List UInt8) (hl : last.all (fun u => decide (u < 128)) = true) (p : Nat) : ([[98, 99], [100, 101], [104, 108], last].getD p []).all (fun u => decide (u < 128)) = true := by
  match p with
  | 0 => rfl
  | 1 => rfl
  | 2 => rfl
  | 3 => exact hl
  | p + 4 => rfl
theorem sig_n {imm : Int} (h : 0 ≤ imm) (d : Int) (X : UInt8) : ([200, 201, 202] : List UInt8).flatMap (sig imm d X) = nT imm := len3 (n_len3 h)
theorem sig_nn {imm : Int} (h : 0 ≤ imm) (h2 : imm < 65536) (d : Int) (X : UInt8) : ([210, 211, 212, 213, 214] : List UInt8).flatMap (sig imm d X) = nnT imm := len5 (nn_len5 h h2)
theorem sig_to (imm d : Int) (X : UInt8) : ([36, 220] : List UInt8).flatMap (sig imm d X) = toT imm := by
  show [36] ++ (sgnT (sgd (imm % 256) + 2) ++ []) = _
  rw [List.append_nil]; rfl
theorem show0 {c : Nat} {d imm : Int} (hc : c < 256) (h : 0 ≤ imm) (h2 : imm < 65536) : showT 0 (c : Int) d imm = (mk0 c).flatMap (sig imm d 120) := by
  have L := sig_lit imm d 120
  unfold mk0
  rw [fmQuar L (fun y hy => lit L (hx_lit y hy)) (by omega) (by omega), sig_n h, sig_nn h h2, sig_to]
  unfold showT
  rw [if_pos (by omega), show ((c : Int) / 64).toNat = c / 64 by omega, show ((c : Int) / 8 % 8).toNat = c / 8 % 8 by omega, show ((c : Int) % 8).toNat = c % 8 by omega]
  have e1 : (fun p => pairT 0 p sp) = (fun p => (prL p).flatMap (sig imm d 120)) := by
    funext p; rw [prL_eq, lit L (show (prL p).all _ = true from rp_lit sp rfl p)]
  have e2 : (fun p => pairT 0 p af) = (fun p => (pairT 0 p af).flatMap (sig imm d 120)) := by
    funext p
    have : pairT 0 p af = [[98, 99], [100, 101], [104, 108], af].getD p [] := by
      unfold pairT; rw [if_neg (by rintro ⟨-, h⟩; exact absurd h (by decide))]
    rw [this, lit L (rp_lit af rfl p)]
  have e3 : regT 0 (c : Int) d = (fun p => (regL p).flatMap (sig imm d 120)) := by
    funext p; rw [lit L (reg_lit p)]; rfl
  rw [e1, e3, ← e2]
theorem show3 {c : Nat} {d imm pl : Int} {X : UInt8} (hp : pl = 3 ∨ pl = 4) (hX : nmT pl = [105, X]) (hc : c < 256) (h : 0 ≤ imm) (h2 : imm < 65536) : showT pl (c : Int) d imm = (mkI c).flatMap (sig imm d X) := by
  have L := sig_lit imm d X
  have hon : onT pl = true := by rcases hp with rfl | rfl <;> rfl
  have hnear : nearT pl (c : Int) = nearC (c : Int) := by unfold nearT; rcases hp with rfl | rfl <;> rfl
  have hnm : ([105, 230] : List UInt8).flatMap (sig imm d X) = nmT pl := by rw [hX]; rfl
  have hix : ([40, 105, 230, 221, 41] : List UInt8).flatMap (sig imm d X) = ixT pl d := by
    unfold ixT; rw [hX]
    show [40] ++ ([105] ++ ([X] ++ (sgnT (sgd d) ++ ([41] ++ [])))) = _
    simp
  unfold mkI
  rw [fmQuar L (fun y hy => lit L (hx_lit y hy)) (by omega) (by omega), sig_n h, sig_nn h h2, sig_to]
  unfold showT
  rw [if_pos (by omega), show ((c : Int) / 64).toNat = c / 64 by omega, show ((c : Int) / 8 % 8).toNat = c / 8 % 8 by omega, show ((c : Int) % 8).toNat = c % 8 by omega]
  have e1 : ∀ last : List UInt8, last.all (fun u => decide (u < 128)) = true → (fun p => pairT pl p last) = (fun p => (rpM last p).flatMap (sig imm d X)) := by
    intro last hl; funext p
    unfold pairT rpM
    by_cases hp2 : p = 2
    · rw [if_pos ⟨hp2, hon⟩, if_pos hp2, hnm]
    · rw [if_neg (fun h => hp2 h.1), if_neg hp2, lit L (rp_lit last hl p)]
  have e3 : regT pl (c : Int) d = (fun p => (rgM c p).flatMap (sig imm d X)) := by
    funext p
    unfold regT rgM
    rw [if_pos hon, hnear]
    by_cases h6 : p = 6
    · rw [if_pos h6, if_pos h6, hix]
    · rw [if_neg h6, if_neg h6]
      by_cases h4 : (p = 4 ∨ p = 5) ∧ nearC (c : Int) = false
      · rw [if_pos h4, if_pos h4, List.flatMap_append, hnm, lit L (reg_lit p)]
      · rw [if_neg h4, if_neg h4, lit L (reg_lit p)]
  rw [e1 sp rfl, e1 af rfl, e3]
/-! ### what differs -/
def mism : List UInt8 → List UInt8 → Bool
  | u :: a, v :: b => if u = 220 ∨ v = 220 ∨ u = 221 ∨ v = 221 then false else if u < 128 ∧ v < 128 ∧ u ≠ v then true else mism a b
  | _, _ => false
def fixed (a : List UInt8) : Bool := a.all (fun u => decide (u ≠ 220 ∧ u ≠ 221))
def differ (a b : List UInt8) : Bool := (fixed a && (fixed b && a.length != b.length)) || mism a b
theorem fixed_len {imm d : Int} {X : UInt8} : ∀ {a : List UInt8}, fixed a = true → (a.flatMap (sig imm d X)).length = a.length
  | [], _ => rfl
  | u :: a, h => by
    unfold fixed at h
    rw [List.all_cons, Bool.and_eq_true] at h
    have hu : u ≠ 220 ∧ u ≠ 221 := by simpa using h.1
    obtain ⟨v, hv⟩ := fill_one (nT imm) (nnT imm) (sgnT (sgd (imm % 256) + 2)) (sgnT (sgd d)) X hu.1 hu.2
    rw [List.flatMap_cons, show sig imm d X u = [v] from hv, List.length_append, fixed_len h.2, List.length_cons, List.length_cons, List.length_nil]
    omega
theorem mism_ne {imm d : Int} {X : UInt8} : ∀ {a b : List UInt8}, mism a b = true → a.flatMap (sig imm d X) ≠ b.flatMap (sig imm d X)
  | [], b, h => by cases h
  | u :: a, [], h => by cases h
  | u :: a, v :: b, h => by
    rw [mism] at h
    split at h
    · cases h
    · next hn =>
      have hn : u ≠ 220 ∧ v ≠ 220 ∧ u ≠ 221 ∧ v ≠ 221 := ⟨fun e => hn (Or.inl e), fun e => hn (Or.inr (Or.inl e)), fun e => hn (Or.inr (Or.inr (Or.inl e))), fun e => hn (Or.inr (Or.inr (Or.inr e)))⟩
      rw [List.flatMap_cons, List.flatMap_cons]
      split at h
      · next hl =>
        rw [sig_lit imm d X u hl.1, sig_lit imm d X v hl.2.1]
        intro e
        exact hl.2.2 (List.cons.inj e).1
      · obtain ⟨x, hx⟩ := fill_one (nT imm) (nnT imm) (sgnT (sgd (imm % 256) + 2)) (sgnT (sgd d)) X hn.1 hn.2.2.1
        obtain ⟨y, hy⟩ := fill_one (nT imm) (nnT imm) (sgnT (sgd (imm % 256) + 2)) (sgnT (sgd d)) X hn.2.1 hn.2.2.2
        rw [show sig imm d X u = [x] from hx, show sig imm d X v = [y] from hy]
        intro e
        exact mism_ne h (List.cons.inj e).2
theorem differ_ne {imm d : Int} {X : UInt8} {a b : List UInt8} (h : differ a b = true) : a.flatMap (sig imm d X) ≠ b.flatMap (sig imm d X) := by
  unfold differ at h
  rw [Bool.or_eq_true] at h
  rcases h with h | h
  · rw [Bool.and_eq_true, Bool.and_eq_true] at h
    intro e
    have := congrArg List.length e
    rw [fixed_len h.1, fixed_len h.2.1] at this
    rw [this] at h
    simp at h
  · exact mism_ne h
def bareN (c : Nat) : Bool := c != 203 && c != 237 && c != 221 && c != 253
def tabM : List (List UInt8) := (List.range 256).map mk0
theorem all_differ : (List.range 256).all (fun c => !bareN c || (List.range c).all (fun k => !bareN k || differ (mk0 k) (mk0 c))) = true := by kernel_rfl
theorem all_some : (List.range 256).all (fun c => match mk0 c with | u :: _ => decide (u < 128) | [] => false) = true := by kernel_rfl
theorem sum_len : ∀ y < 8, (sumL.getD y []).length ≤ 10 := by decide
theorem cond_len : ∀ y < 8, (condL.getD y []).length ≤ 10 := by decide
theorem turn_len : ∀ y < 8, (turnL.getD y []).length ≤ 10 := by decide
/-! ### IX beside IY -/
inductive XY : List UInt8 → List UInt8 → Prop
  | nil : XY [] []
  | cons {u v : UInt8} {a b : List UInt8} (h : u = v ∨ (u = 120 ∧ v = 121)) (t : XY a b) : XY (u :: a) (v :: b)
theorem XY.refl : ∀ a : List UInt8, XY a a
  | [] => .nil
  | u :: a => .cons (Or.inl rfl) (XY.refl a)
theorem XY.app {a b c d : List UInt8} (h : XY a b) (h2 : XY c d) : XY (a ++ c) (b ++ d) := by
  induction h with
  | nil => exact h2
  | cons h t ih => exact .cons h ih
theorem XY.len {a b : List UInt8} (h : XY a b) : a.length = b.length := by
  induction h with
  | nil => rfl
  | cons h t ih => simp [ih]
theorem XY.get {a b : List UInt8} (h : XY a b) : ∀ (i : Nat) (h1 : i < a.length) (h2 : i < b.length), a[i] = b[i] ∨ (a[i] = 120 ∧ b[i] = 121) := by
  induction h with
  | nil => intro i h1; exact absurd h1 (by simp)
  | cons h t ih =>
    intro i h1 h2
    cases i with
    | zero => exact h
    | succ i => exact ih i (by simpa using h1) (by simpa using h2)
theorem sig_xy (imm d : Int) (u : UInt8) : XY (sig imm d 120 u) (sig imm d 121 u) := by
  by_cases h : u = 230
  · subst h; exact .cons (Or.inr ⟨rfl, rfl⟩) .nil
  · have : sig imm d 120 u = sig imm d 121 u := by unfold sig fillU; simp only [if_neg h]
    rw [this]; exact .refl _
theorem fm_xy (imm d : Int) : ∀ a : List UInt8, XY (a.flatMap (sig imm d 120)) (a.flatMap (sig imm d 121))
  | [] => .nil
  | u :: a => by rw [List.flatMap_cons, List.flatMap_cons]; exact (sig_xy imm d u).app (fm_xy imm d a)
end Go.Proofs.YtilgjfckgkkfmaaDoor.Tex
