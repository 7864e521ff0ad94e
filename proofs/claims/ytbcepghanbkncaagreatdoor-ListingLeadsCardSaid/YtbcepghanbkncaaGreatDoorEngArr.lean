/- The engine's arrays: variables that are rows of known length, read and written at any place. -/
import Derived.Test.YtbcepghanbkncaaGreatDoorEngSeq
import Derived.ChangeKeysEq
set_option linter.unusedVariables false
set_option linter.unusedSimpArgs false
namespace Go.Eng
open Go.RowKit
theorem flat_len {α : Type} {en : α → List Value} {sz : Nat} (hen : ∀ x, (en x).length = sz) : ∀ xs : List α, (xs.flatMap en).length = xs.length * sz
  | [] => by simp
  | x :: xs => by rw [List.flatMap_cons, List.length_append, hen, flat_len hen xs, List.length_cons, Nat.add_mul]; omega
theorem flat_set {α : Type} {en : α → List Value} {sz : Nat} (hen : ∀ x, (en x).length = sz) : ∀ (xs : List α) (j : Nat) (y : α), j < xs.length →
    (xs.flatMap en).take (j * sz) ++ en y ++ (xs.flatMap en).drop (j * sz + sz) = (xs.set j y).flatMap en
  | [], j, y, h => by simp at h
  | x :: xs, 0, y, h => by
    simp only [List.flatMap_cons, Nat.zero_mul, List.take_zero, List.nil_append, List.set_cons_zero, Nat.zero_add]
    rw [← hen x, List.drop_left]
  | x :: xs, j + 1, y, h => by
    have ih := flat_set hen xs j y (by simpa using h)
    simp only [List.flatMap_cons, List.set_cons_succ]
    rw [show (j + 1) * sz = (en x).length + j * sz by rw [hen x, Nat.add_mul]; omega, List.take_length_add_append, show (en x).length + j * sz + sz = (en x).length + (j * sz + sz) by omega, List.drop_length_add_append, ← ih]
    simp [List.append_assoc]
section
variable {P : Program} {F : Fun P} {k : List It} {e e' : Env} {w w' ws w0 : World} {R : Ending → World → Prop} {n i m : Nat} {l : List Nat} {M0 : Nat → Prop} {H : List Chunk} {T : List Nat} {K : Env → World → Prop}
def infSz (P : Program) (T : TypeId) : Option Nat := (P.info? T).map (·.size)
theorem OpE.storeArr {α : Type} [Inhabited α] {en : α → List Value} (c : Nat) (T : TypeId) (b sz : Nat) (j : Int) (v : Value) {t : TypeId} {xs : List α} (y : α) {o : Nat} (hH : Holds M0 w0 w H) (ho : opOk0 F n i e = true) (hl : storeOf F n i e = some (T, ⟨b, o, none⟩, v)) (hi : H[c]? = some (Eng.box b t (xs.flatMap en)))
    (hen : ∀ x, (en x).length = sz) (hoq : o = j.toNat * sz) (hf : fitsV P T v = true) (hv : v.cells.toList = en y) (hr : inR j xs.length = true)
    (hn : ∀ w', Holds M0 w0 w' (H.set c (Eng.box b t ((stD xs j y).flatMap en))) → Kp [b] w w' → K e w') : OpE F n i e w K := by
  obtain ⟨h0, h1⟩ := inR_spec hr
  have hlt : j.toNat < xs.length := by omega
  have hsz : v.cells.size = sz := by rw [← hen y, ← hv]; simp
  subst hoq
  refine OpE.storeBox c T b (j.toNat * sz) v ((stD xs j y).flatMap en) hH ho hl hi hf ?_ ?_ hn
  · rw [hsz, flat_len hen]
    refine Nat.ble_eq_true_of_le ?_
    have : (j.toNat + 1) * sz ≤ xs.length * sz := Nat.mul_le_mul_right _ hlt
    rw [Nat.add_mul] at this
    omega
  · rw [hsz, hv]
    unfold stD
    exact flat_set hen xs j.toNat y hlt
theorem part_int {E : TypeId} {kk q : IntKind} (hE : P.underlying E = some (.int q)) {xs : List Int} {j : Nat} (h : j < xs.length) : (part E (xs.flatMap fun x => [Value.int kk x]).toArray (j * 1)).run P w = .ok (.int kk xs[j]) w := by
  have hg : (xs.flatMap fun x => [Value.int kk x])[j]? = some (.int kk xs[j]) := by
    have : (xs.flatMap fun x => [Value.int kk x]) = xs.map (Value.int kk) := by
      clear h
      induction xs with
      | nil => rfl
      | cons x xs ih => rw [List.flatMap_cons, ih]; rfl
    rw [this]
    simp [h]
  have h2 : j < (xs.flatMap fun x => [Value.int kk x]).length := (List.getElem?_eq_some_iff.1 hg).1
  have hg2 : (xs.flatMap fun x => [Value.int kk x]).toArray[j]? = some (.int kk xs[j]) := by simpa using hg
  simp only [part, isAgg, Sem.run_bind, run_underlying hE, Result.andThen_ok, Sem.run_pure, Nat.mul_one]
  simp [hg]
theorem eqItems_int {E : TypeId} {kk q : IntKind} (hE : P.underlying E = some (.int q)) (d : Nat) (xs ys : List Int) : ∀ (m j : Nat), j + m = xs.length → ys.length = xs.length →
    (Op.eqItems (d + 1) E 1 (xs.flatMap fun x => [Value.int kk x]).toArray (ys.flatMap fun x => [Value.int kk x]).toArray (List.range' j m)).run P w = .ok (xs.drop j == ys.drop j) w
  | 0, j, hj, hl => by
    rw [List.drop_of_length_le (by omega), List.drop_of_length_le (by omega)]
    simp [Op.eqItems]
  | m + 1, j, hj, hl => by
    have h1 : j < xs.length := by omega
    have h2 : j < ys.length := by omega
    have ih := eqItems_int (kk := kk) hE d xs ys m (j + 1) (by omega) hl
    have he := run_equalIn_int (P := P) w d E kk q xs[j] ys[j] hE
    rw [List.range'_succ]
    simp only [Op.eqItems, Sem.run_bind, part_int hE h1, part_int hE h2, Result.andThen_ok, he]
    rw [List.drop_eq_getElem_cons h1, List.drop_eq_getElem_cons h2]
    cases hb : (xs[j] == ys[j]) with
    | false =>
      have : (xs[j] :: xs.drop (j + 1) == ys[j] :: ys.drop (j + 1)) = false := by rw [List.cons_beq_cons, hb, Bool.false_and]
      simp only [Bool.not_false, if_true, this, Sem.run_pure]
    | true =>
      have : (xs[j] :: xs.drop (j + 1) == ys[j] :: ys.drop (j + 1)) = (xs.drop (j + 1) == ys.drop (j + 1)) := by rw [List.cons_beq_cons, hb, Bool.true_and]
      simp only [Bool.not_true, Bool.false_eq_true, if_false, this]
      exact ih
theorem run_eqArr {T E : TypeId} {len : Nat} {kk q : IntKind} {neg : Bool} {xs ys : List Int} (hx : eqOf F n i e = some (neg, T, .agg (xs.flatMap fun x => [Value.int kk x]).toArray, .agg (ys.flatMap fun x => [Value.int kk x]).toArray)) (hg : P.eqGuardType P.depth T = false)
    (hu : P.underlying T = some (.array len E)) (hE : P.underlying E = some (.int q)) (hI : infSz P E = some 1) (hc : P.cellsOf E = 1) (h1 : Nat.beq xs.length len = true) (h2 : Nat.beq ys.length len = true) : (execOp e.eval (opOf F.B n i)).run P w = .ok (.value (.bool (cond neg (!(xs == ys)) (xs == ys)))) w := by
  have h1 := Nat.eq_of_beq_eq_true h1
  have h2 := Nat.eq_of_beq_eq_true h2
  unfold infSz at hI
  cases hi : P.info? E with
  | none => simp [hi] at hI
  | some inf =>
    have h := run_equalIn_array (P := P) (w := w) 9999 (xs.flatMap fun x => [Value.int kk x]).toArray (ys.flatMap fun x => [Value.int kk x]).toArray hu hi
    rw [hc, List.range_eq_range', eqItems_int hE 9998 xs ys len 0 (by omega) (by omega)] at h
    simp only [List.drop_zero] at h
    unfold eqOf at hx
    split at hx
    · rename_i t' x' y' p hop
      simp only [Option.some.injEq, Prod.mk.injEq] at hx
      obtain ⟨rfl, rfl, hx1, hy1⟩ := hx
      have g2 := run_eqGuard_agg (P := P) w .eql t' x' y' (xs.flatMap fun x => [Value.int kk x]).toArray (ys.flatMap fun x => [Value.int kk x]).toArray hg
      have g3 := run_eql_struct (P := P) w t' (xs.flatMap fun x => [Value.int kk x]).toArray (ys.flatMap fun x => [Value.int kk x]).toArray
      rw [show (10000 : Nat) = 9999 + 1 from rfl, h] at g3
      unfold execOp
      simp only [hop, hx1, hy1, Sem.run_bind, g2, g3, Result.andThen_ok]
      simp
    · rename_i t' x' y' p hop
      simp only [Option.some.injEq, Prod.mk.injEq] at hx
      obtain ⟨rfl, rfl, hx1, hy1⟩ := hx
      have g2 := run_eqGuard_agg (P := P) w .neq t' x' y' (xs.flatMap fun x => [Value.int kk x]).toArray (ys.flatMap fun x => [Value.int kk x]).toArray hg
      have g3 := run_neq_struct (P := P) w t' (xs.flatMap fun x => [Value.int kk x]).toArray (ys.flatMap fun x => [Value.int kk x]).toArray
      rw [show (10000 : Nat) = 9999 + 1 from rfl, h] at g3
      unfold execOp
      simp only [hop, hx1, hy1, Sem.run_bind, g2, g3, Result.andThen_ok]
      simp
    · cases hx
theorem run_idxArrK {T : TypeId} {b o : Nat} {ix k : Int} {len s : Nat} (hx : idxOf F n i e = some (T, .pointer (some ⟨b, o, none⟩), ix)) (hT : arrSz P T = some (len, s)) (hk : (ix == k) = true) (h : inR k len = true) :
    (execOp e.eval (opOf F.B n i)).run P w = .ok (.value (.pointer (some ⟨b, o + k.toNat * s, none⟩))) w := by
  obtain rfl := eq_of_beq hk
  exact run_idxArr hx hT h
end
#print axioms run_eqArr
#print axioms OpE.storeArr
end Go.Eng
