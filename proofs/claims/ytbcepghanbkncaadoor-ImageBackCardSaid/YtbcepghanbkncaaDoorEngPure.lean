/- Small facts for the plain laws: places of rows, bounds that hold, numbers that don't wrap. -/
import Derived.Test.YtbcepghanbkncaaDoorEngRow
set_option linter.unusedVariables false
namespace Go.Eng
open Go.RowKit
theorem inR_nat {i n : Nat} (h : i < n) : inR (i : Int) n = true := by simp [inR]; omega
theorem inR_iff {i : Int} {n : Nat} : inR i n = true ↔ 0 ≤ i ∧ i < (n : Int) := by simp [inR]
theorem rdD_nat {α : Type} [Inhabited α] (xs : List α) {i : Nat} (h : i < xs.length) : rdD xs (i : Int) = xs[i] := by simp [rdD, h]
theorem rdD_of {α : Type} [Inhabited α] {xs : List α} {i : Nat} {x : α} (h : xs[i]? = some x) : rdD xs (i : Int) = x := by simp [rdD, List.getD, h]
theorem wrap_i64 {x : Int} (h : -9223372036854775808 ≤ x) (h2 : x < 9223372036854775808) : IntKind.wrap .i64 x = x := by rw [IntKind.wrap_i64]; omega
theorem wrap_nat {i : Nat} (h : i < 4611686018427387904) : IntKind.wrap .i64 ((i : Int) + 1) = ((i + 1 : Nat) : Int) := by rw [wrap_i64 (by omega) (by omega)]; omega
theorem mayBe_of {n b : Nat} (h : n ≤ 9223372036854775807) (h2 : n * b ≤ 140737488355328) : mayBe n b = true := by
  simp only [mayBe, Bool.and_eq_true]
  exact ⟨Nat.ble_eq_true_of_le h, Nat.ble_eq_true_of_le h2⟩
theorem makeR_of {x : Int} {b : Nat} (h : 0 ≤ x) (h2 : (b : Int) * x ≤ 281474976710656) (h3 : x ≤ 9223372036854775807) : makeR x b = true := by simp [makeR, h, h2, h3]
theorem cutR_of {lo hi : Int} {n : Nat} (h : 0 ≤ lo) (h2 : lo ≤ hi) (h3 : hi ≤ (n : Int)) : cutR lo hi n = true := by simp [cutR, h, h2, h3]
theorem cond_t {α : Type} (a b : α) : cond true a b = a := rfl
theorem cond_f {α : Type} (a b : α) : cond false a b = b := rfl
theorem cond_of {α : Type} {c : Bool} (h : c = true) (a b : α) : cond c a b = a := by rw [h]; rfl
theorem cond_no {α : Type} {c : Bool} (h : c = false) (a b : α) : cond c a b = b := by rw [h]; rfl
theorem cutL_nat {α : Type} (xs : List α) (i : Nat) : cutL xs 0 (i : Int) = xs.take i := by simp [cutL]
theorem drop_at {α : Type} {xs : List α} {i : Nat} (h : i < xs.length) : xs.drop i = xs[i] :: xs.drop (i + 1) := by simp
end Go.Eng
namespace Go.Eng
open Go.RowKit
/-! ### Loops over a row -/
theorem searchD {α ρ : Type} [Inhabited α] (L : Nat → Int → Option (Lp ρ Unit)) (xs : List α) (n : Int) (hn : n = xs.length) (p : α → Bool) (g : Int → ρ) (hx : xs.length ≤ 1000000000)
    (h : ∀ k t, L (k + 1) t = cond (decide (t < n)) (cond (inR t xs.length) (cond (p (rdD xs t)) (some (Lp.ret (g t))) (L k (IntKind.wrap .i64 (t + 1)))) none) (some (Lp.go ()))) :
    ∀ (m k i : Nat), i + m = xs.length → m < k → L k (i : Int) = some (match (xs.drop i).findIdx? p with | some j => Lp.ret (g ((i + j : Nat) : Int)) | none => Lp.go ()) := by
  subst hn
  intro m
  induction m with
  | zero =>
    intro k i hi hk
    obtain ⟨k, rfl⟩ : ∃ j, k = j + 1 := ⟨k - 1, by omega⟩
    rw [h, cond_no (by simp; omega), List.drop_of_length_le (by omega)]
    rfl
  | succ m ih =>
    intro k i hi hk
    obtain ⟨k, rfl⟩ : ∃ j, k = j + 1 := ⟨k - 1, by omega⟩
    have hlt : i < xs.length := by omega
    rw [h, cond_of (by simp; omega), cond_of (inR_nat hlt), rdD_nat xs hlt, wrap_nat (by omega), drop_at hlt, ih k (i + 1) (by omega) (by omega), List.findIdx?_cons]
    cases hp : p xs[i] with
    | true => simp
    | false =>
      simp only [cond_f, Bool.false_eq_true, if_false]
      cases (xs.drop (i + 1)).findIdx? p with
      | none => rfl
      | some j => simp only [Option.map_some]; congr 4; omega
theorem search0 {α ρ : Type} [Inhabited α] (L : Nat → Int → Option (Lp ρ Unit)) (xs : List α) (n : Int) (hn : n = xs.length) (p : α → Bool) (g : Int → ρ) (hx : xs.length ≤ 1000000000)
    (h : ∀ k t, L (k + 1) t = cond (decide (t < n)) (cond (inR t xs.length) (cond (p (rdD xs t)) (some (Lp.ret (g t))) (L k (IntKind.wrap .i64 (t + 1)))) none) (some (Lp.go ()))) {K : Nat} (hK : xs.length < K) :
    L K 0 = some (match xs.findIdx? p with | some j => Lp.ret (g ((j : Nat) : Int)) | none => Lp.go ()) := by
  have := searchD L xs n hn p g hx h xs.length K 0 (by omega) hK
  simpa using this
/-- A loop that carries something through a row. -/
theorem loopD {σ ρ α : Type} (L : Nat → σ → Int → Option ρ) (xs : List α) (f : σ → α → σ) (fin : σ → Option ρ) (I : Nat → σ → Prop)
    (h0 : ∀ k s, I xs.length s → L (k + 1) s (xs.length : Int) = fin s)
    (h1 : ∀ k s (i : Nat) (hi : i < xs.length), I i s → L (k + 1) s (i : Int) = L k (f s xs[i]) ((i + 1 : Nat) : Int) ∧ I (i + 1) (f s xs[i])) :
    ∀ (m k i : Nat) (s : σ), i + m = xs.length → m < k → I i s → L k s (i : Int) = fin ((xs.drop i).foldl f s) := by
  intro m
  induction m with
  | zero =>
    intro k i s hi hk hI
    obtain ⟨k, rfl⟩ : ∃ j, k = j + 1 := ⟨k - 1, by omega⟩
    obtain rfl : i = xs.length := by omega
    rw [h0 k s hI, List.drop_of_length_le (by omega)]
    rfl
  | succ m ih =>
    intro k i s hi hk hI
    obtain ⟨k, rfl⟩ : ∃ j, k = j + 1 := ⟨k - 1, by omega⟩
    have hlt : i < xs.length := by omega
    obtain ⟨h2, h3⟩ := h1 k s i hlt hI
    rw [h2, ih k (i + 1) _ (by omega) (by omega) h3, drop_at hlt, List.foldl_cons]
theorem loop0 {σ ρ α : Type} (L : Nat → σ → Int → Option ρ) (xs : List α) (f : σ → α → σ) (fin : σ → Option ρ) (I : Nat → σ → Prop)
    (h0 : ∀ k s, I xs.length s → L (k + 1) s (xs.length : Int) = fin s)
    (h1 : ∀ k s (i : Nat) (hi : i < xs.length), I i s → L (k + 1) s (i : Int) = L k (f s xs[i]) ((i + 1 : Nat) : Int) ∧ I (i + 1) (f s xs[i])) {K : Nat} (hK : xs.length < K) {s : σ} (hI : I 0 s) : L K s 0 = fin (xs.foldl f s) := by
  have := loopD L xs f fin I h0 h1 xs.length K 0 s (by omega) hK hI
  simpa using this
/-- What is left is moved to the front. -/
theorem delD {α : Type} [Inhabited α] (L : Nat → List α → Int → Int → Option (List α × Int)) (q : α → Bool) (xs : List α) (hx : xs.length ≤ 1000000000)
    (h : ∀ k ys w r, L (k + 1) ys w r = cond (decide (r < (ys.length : Int))) (cond (inR r ys.length) (cond (!(q (rdD ys r))) (cond (inR w ys.length) (L k (stD ys w (rdD ys r)) (IntKind.wrap .i64 (w + 1)) (IntKind.wrap .i64 (r + 1))) none) (L k ys w (IntKind.wrap .i64 (r + 1)))) none) (some (ys, w))) :
    ∀ (m k r : Nat) (w : Nat) (ys : List α), r + m = xs.length → m < k → ys.length = xs.length → w < r → ys.take w = (xs.take r).filter (fun x => !(q x)) → ys.drop r = xs.drop r →
      ∃ ys' : List α, ∃ w' : Nat, L k ys (w : Int) (r : Int) = some (ys', (w' : Int)) ∧ ys'.length = xs.length ∧ w' ≤ xs.length ∧ ys'.take w' = xs.filter (fun x => !(q x)) := by
  intro m
  induction m with
  | zero =>
    intro k r w ys hr hk hl hw ht hd
    obtain ⟨k, rfl⟩ : ∃ j, k = j + 1 := ⟨k - 1, by omega⟩
    refine ⟨ys, w, ?_, hl, by omega, ?_⟩
    · rw [h, cond_no (by simp; omega)]
    · rw [ht, List.take_of_length_le (by omega)]
  | succ m ih =>
    intro k r w ys hr hk hl hw ht hd
    obtain ⟨k, rfl⟩ : ∃ j, k = j + 1 := ⟨k - 1, by omega⟩
    have hlt : r < xs.length := by omega
    have hlt' : r < ys.length := by omega
    have hel : ys[r] = xs[r] := by
      have := congrArg (fun l => l[0]?) hd
      simpa [List.getElem?_drop, hlt, hlt'] using this
    have hd1 : ys.drop (r + 1) = xs.drop (r + 1) := by
      have := congrArg (List.drop 1) hd
      simpa [List.drop_drop, Nat.add_comm] using this
    rw [h, cond_of (by simp; omega), cond_of (inR_nat hlt'), rdD_nat ys hlt', hel, wrap_nat (i := r) (by omega)]
    cases hq : q xs[r] with
    | true =>
      simp only [Bool.not_true, cond_f]
      refine ih k (r + 1) w ys (by omega) (by omega) hl (by omega) ?_ hd1
      rw [ht, List.take_succ_eq_append_getElem hlt, List.filter_append]
      simp [hq]
    | false =>
      simp only [Bool.not_false, cond_t]
      rw [cond_of (inR_nat (by omega)), wrap_nat (i := w) (by omega)]
      refine ih k (r + 1) (w + 1) _ (by omega) (by omega) (by rw [stD_length]; exact hl) (by omega) ?_ ?_
      · rw [List.take_succ_eq_append_getElem (by rw [stD_length]; omega), List.take_succ_eq_append_getElem hlt, List.filter_append]
        simp only [stD, Int.toNat_natCast, List.getElem_set_self]
        rw [List.take_set_of_le (by omega), ht]
        simp [hq]
      · simp only [stD, Int.toNat_natCast]
        rw [List.drop_set_of_lt (by omega)]
        exact hd1
theorem cut_clr {α : Type} (ys : List α) (w : Nat) (z : α) (h : w ≤ ys.length) : cutL (clrD ys (w : Int) z) 0 (w : Int) = ys.take w := by
  simp only [cutL, clrD, Int.toNat_natCast]
  rw [List.take_append_of_le_length (by simp; omega), List.take_take, Nat.min_self]
  rfl
end Go.Eng
namespace Go.Eng
open Go.RowKit
/-- A look through places, whatever is asked at each. -/
theorem searchI {ρ : Type} (L : Nat → Int → Option (Lp ρ Unit)) (n : Nat) (P : Nat → Bool) (v : ρ) (h0 : ∀ k, L (k + 1) (n : Int) = some (Lp.go ()))
    (h1 : ∀ k (i : Nat), i < n → L (k + 1) (i : Int) = if P i then some (Lp.ret v) else L k ((i + 1 : Nat) : Int)) :
    ∀ (m k i : Nat), i + m = n → m < k → L k (i : Int) = some (if (List.range' i m).any P then Lp.ret v else Lp.go ()) := by
  intro m
  induction m with
  | zero =>
    intro k i hi hk
    obtain ⟨k, rfl⟩ : ∃ j, k = j + 1 := ⟨k - 1, by omega⟩
    obtain rfl : i = n := by omega
    rw [h0]
    rfl
  | succ m ih =>
    intro k i hi hk
    obtain ⟨k, rfl⟩ : ∃ j, k = j + 1 := ⟨k - 1, by omega⟩
    rw [h1 k i (by omega), List.range'_succ, List.any_cons]
    cases hp : P i with
    | true => simp
    | false =>
      simp only [Bool.false_eq_true, if_false, Bool.false_or]
      exact ih k (i + 1) (by omega) (by omega)
end Go.Eng
