/- Digits, numbers and bytes: the program's and the reference's are the same. -/
import Derived.Test.YtbcepghanbkncaaDoorIm4
import Derived.Test.YtbcepghanbkncaaDoorEngText
set_option linter.unusedVariables false
set_option linter.unusedSimpArgs false
namespace Go.Proofs.YtbcepghanbkncaaDoor.Im
open Go.RowKit Go.Eng
def byt (x : Int) : Prop := 0 ≤ x ∧ x < 256
abbrev D16 : ByteArray := ⟨#[48, 49, 50, 51, 52, 53, 54, 55, 56, 57, 97, 98, 99, 100, 101, 102]⟩
/-- A digit's value. -/
def vI (c : Int) : Int := if 48 ≤ c ∧ c ≤ 57 then c - 48 else if 97 ≤ c ∧ c ≤ 102 then c - 87 else -1
theorem vI_in (c : Int) : -1 ≤ vI c ∧ vI c < 16 := by unfold vI; split <;> (try split) <;> omega
theorem bytesI_byt (s : ByteArray) : ∀ x ∈ bytesI s, byt x := by
  intro x hx
  obtain ⟨b, _, rfl⟩ := List.mem_map.1 hx
  have := b.toNat_lt
  unfold byt
  omega
theorem bytesI_ba (l : List UInt8) : bytesI (ba l) = l.map fun b => (b.toNat : Int) := rfl
theorem rdD_byt {b : List Int} (hb : ∀ x ∈ b, byt x) {i : Nat} (hi : i < b.length) : byt (rdD b (i : Int)) := by rw [rdD_nat b hi]; exact hb _ (List.getElem_mem hi)
theorem bt_bytes (s : ByteArray) {i : Nat} (h : i < s.size) : btD s (i : Int) = rdD (bytesI s) (i : Int) := by
  obtain ⟨l, rfl⟩ : ∃ l, s = ba l := ⟨_, (ba_of s).symm⟩
  rw [ba_size] at h
  rw [ba_bt l h, bytesI_ba, rdD_nat _ (by simpa using h), List.getElem_map]
theorem goDig {c : Int} (h : byt c) : strings_IndexByte_49.f 2000 D16 c = some (vI c) := by
  have key : ∀ c : Fin 256, strings_IndexByte_49.f 2000 D16 (c.val : Int) = some (vI (c.val : Int)) := by decide +kernel
  unfold byt at h
  have := key ⟨c.toNat, by omega⟩
  simpa [Int.toNat_of_nonneg h.1] using this
theorem refDig {c : Int} (h : byt c) : charabancref30_digit_50.f 2000 c = some (vI c) := by
  have key : ∀ c : Fin 256, charabancref30_digit_50.f 2000 (c.val : Int) = some (vI (c.val : Int)) := by decide +kernel
  unfold byt at h
  have := key ⟨c.toNat, by omega⟩
  simpa [Int.toNat_of_nonneg h.1] using this
/-- The number of digits. -/
def numI (n : Int) : List Int → Option Int
  | [] => some n
  | c :: r => if vI c < 0 then none else numI (16 * n + vI c) r
def numG (n : Int) : List Int → Option Int
  | [] => some n
  | c :: r => if vI c < 0 then none else numG (bor .i64 (IntKind.wrap .i64 (n * 2 ^ 4)) (vI c)) r
def numO (l : List Int) (many : Nat) : Option Int := if l.length = many then numI 0 l else none
theorem bor16 {n d : Int} (hn : 0 ≤ n) (h2 : n < 72057594037927936) (hd : 0 ≤ d ∧ d < 16) : bor .i64 (IntKind.wrap .i64 (n * 2 ^ 4)) d = 16 * n + d := by
  rw [wrap_i64 (by omega) (by omega)]
  have h1 : (BitVec.ofInt 64 (n * 2 ^ 4) ||| BitVec.ofInt 64 d).toNat = 2 ^ 4 * n.toNat + d.toNat := by
    have a1 : (n * 2 ^ 4 % ((2 ^ 64 : Nat) : Int)).toNat = 2 ^ 4 * n.toNat := by omega
    have a2 : (d % ((2 ^ 64 : Nat) : Int)).toNat = d.toNat := by omega
    rw [BitVec.toNat_or, BitVec.toNat_ofInt, BitVec.toNat_ofInt, a1, a2, Nat.two_pow_add_eq_or_of_lt (i := 4) (b := d.toNat) (by omega) n.toNat]
  have : bor .i64 (n * 2 ^ 4) d = IntKind.wrap .i64 (((BitVec.ofInt 64 (n * 2 ^ 4) ||| BitVec.ofInt 64 d).toNat : Nat) : Int) := rfl
  rw [this, h1, wrap_i64 (by omega) (by omega)]
  omega
theorem num_same : ∀ (r : List Int) (n : Int) (B : Nat), 0 ≤ n → n < B → B * 16 ^ r.length ≤ 72057594037927936 → numG n r = numI n r ∧ ∀ v, numI n r = some v → 0 ≤ v ∧ v < ((B * 16 ^ r.length : Nat) : Int)
  | [], n, B, h0, h1, h2 => ⟨rfl, fun v hv => by obtain rfl := Option.some.inj hv; simp; omega⟩
  | c :: r, n, B, h0, h1, h2 => by
    have e : B * 16 ^ (c :: r).length = B * 16 * 16 ^ r.length := by rw [List.length_cons, Nat.pow_succ, Nat.mul_assoc, Nat.mul_comm (16 ^ r.length) 16]
    have hB : B ≤ B * 16 ^ (c :: r).length := Nat.le_mul_of_pos_right _ (Nat.pow_pos (by omega))
    have hv := vI_in c
    rw [e] at h2 ⊢
    rw [numG, numI]
    by_cases hc : vI c < 0
    · rw [if_pos hc, if_pos hc]
      exact ⟨rfl, fun v hv => by cases hv⟩
    · rw [if_neg hc, if_neg hc, bor16 h0 (by omega) (by omega)]
      exact num_same r _ (B * 16) (by omega) (by push_cast; omega) h2
theorem goNum0 {p0 : ByteArray} {many : Int} (hp : (bytesI p0).length ≤ 5000) : ∀ (k i : Nat) (n : Int), i ≤ (bytesI p0).length → (bytesI p0).length - i < k →
    image_number_24.l0 2000 p0 many k n (i : Int) = some (match numG n ((bytesI p0).drop i) with | some v => Lp.go v | none => Lp.ret ())
  | 0, i, n, _, hk => by omega
  | k + 1, i, n, hi, hk => by
    rw [image_number_24.l0.eq_2]
    by_cases h0 : i < (bytesI p0).length
    · rw [decide_eq_true (by omega), cond_t, inR_nat h0, cond_t, goDig (rdD_byt (bytesI_byt p0) h0), Option.bind_some, drop_at h0, numG, rdD_nat _ h0, wrap_nat (by omega)]
      by_cases hc : vI (bytesI p0)[i] < 0
      · rw [decide_eq_true hc, cond_t, if_pos hc]
      · rw [decide_eq_false hc, cond_f, if_neg hc]
        exact goNum0 hp k (i + 1) _ (by omega) (by omega)
    · rw [decide_eq_false (by omega), cond_f, List.drop_of_length_le (by omega)]
      rfl
theorem goNum {p0 : ByteArray} {many : Nat} (hm : many ≤ 5) (hp : p0.size ≤ 1900) : (∃ v, numO (bytesI p0) many = some v ∧ image_number_24.f 2000 p0 (many : Int) = some (v, true)) ∨ (numO (bytesI p0) many = none ∧ ∃ n, image_number_24.f 2000 p0 (many : Int) = some (n, false)) := by
  have hl := bytesI_len p0
  unfold image_number_24.f numO
  have h := goNum0 (p0 := p0) (many := (many : Int)) (by omega) 2000 0 0 (by omega) (by omega)
  rw [show ((0 : Nat) : Int) = 0 from rfl, List.drop_zero] at h
  rw [show Nat.ble p0.size 140737488355328 = true from Nat.ble_eq_true_of_le (by omega), cond_t, h, Option.bind_some]
  by_cases hs : (bytesI p0).length = many
  · have hq := (num_same (bytesI p0) 0 1 (by omega) (by omega) (by
      rw [hs, Nat.one_mul]
      exact Nat.le_trans (Nat.pow_le_pow_right (by omega) hm) (by decide))).1
    rw [if_pos hs, hq, show ((p0.size : Int) == (many : Int)) = true by simp; omega]
    cases numI 0 (bytesI p0) with
    | none => exact .inr ⟨rfl, 0, rfl⟩
    | some v => exact .inl ⟨v, rfl, rfl⟩
  · rw [if_neg hs, show ((p0.size : Int) == (many : Int)) = false by simp; omega]
    cases numG 0 (bytesI p0) with
    | none => exact .inr ⟨rfl, 0, rfl⟩
    | some v => exact .inr ⟨rfl, v, rfl⟩
theorem refNum0 {p0 : ByteArray} {many : Int} (hp : (bytesI p0).length ≤ 5) : ∀ (k i : Nat) (n : Int), i ≤ (bytesI p0).length → (bytesI p0).length - i < k → 0 ≤ n → n < ((16 ^ i : Nat) : Int) →
    charabancref30_number_25.l0 2000 p0 many k n (i : Int) = some (match numI n ((bytesI p0).drop i) with | some v => Lp.go v | none => Lp.ret ())
  | 0, i, n, _, hk, _, _ => by omega
  | k + 1, i, n, hi, hk, hn, hn2 => by
    have hl := bytesI_len p0
    have hb : (16 ^ i : Nat) ≤ 16 ^ 5 := Nat.pow_le_pow_right (by omega) (by omega)
    have hb : (16 ^ i : Nat) ≤ 1048576 := hb
    rw [charabancref30_number_25.l0.eq_2]
    by_cases h0 : i < (bytesI p0).length
    · have hv := vI_in (bytesI p0)[i]
      rw [decide_eq_true (by omega), cond_t, inR_nat (by omega), cond_t, bt_bytes p0 (by omega), refDig (rdD_byt (bytesI_byt p0) h0), Option.bind_some, drop_at h0, numI, rdD_nat _ h0, wrap_nat (by omega)]
      by_cases hc : vI (bytesI p0)[i] < 0
      · rw [decide_eq_true hc, cond_t, if_pos hc]
      · rw [decide_eq_false hc, cond_f, if_neg hc, wrap_i64 (x := 16 * n) (by omega) (by omega), wrap_i64 (by omega) (by omega)]
        exact refNum0 hp k (i + 1) _ (by omega) (by omega) (by omega) (by rw [Nat.pow_succ]; push_cast; push_cast at hn2; omega)
    · rw [decide_eq_false (by omega), cond_f, List.drop_of_length_le (by omega)]
      rfl
theorem refNum {p0 : ByteArray} {many : Nat} (hm : many ≤ 5) : charabancref30_number_25.f 2000 p0 (many : Int) = some (match numO (bytesI p0) many with | some v => (v, true) | none => (0, false)) := by
  have hl := bytesI_len p0
  unfold charabancref30_number_25.f numO
  by_cases hs : (bytesI p0).length = many
  · have h := refNum0 (p0 := p0) (many := (many : Int)) (by omega) 2000 0 0 (by omega) (by omega) (by omega) (by simp)
    rw [show ((0 : Nat) : Int) = 0 from rfl, List.drop_zero] at h
    rw [show ((p0.size : Int) != (many : Int)) = false by simp; omega, cond_f, if_pos hs, h, Option.bind_some]
    cases numI 0 (bytesI p0) <;> rfl
  · rw [show ((p0.size : Int) != (many : Int)) = true by simp; omega, cond_t, if_neg hs]
theorem numO_lt {l : List Int} {many : Nat} (hm : many ≤ 5) {v : Int} (h : numO l many = some v) : 0 ≤ v ∧ v < 1048576 := by
  unfold numO at h
  split at h
  · next hs =>
    have hb : (16 ^ l.length : Nat) ≤ 16 ^ 5 := Nat.pow_le_pow_right (by omega) (by omega)
    have hb : (16 ^ l.length : Nat) ≤ 1048576 := hb
    have := (num_same l 0 1 (by omega) (by omega) (by omega)).2 v h
    rw [Nat.one_mul] at this
    omega
  · cases h
/-! ### bytes -/
def prsB : List Int → Option (List Int)
  | [] => some []
  | [_] => none
  | c :: d :: r => if vI c < 0 ∨ vI d < 0 then none else (prsB r).map fun b => (16 * vI c + vI d) :: b
theorem two_num (c d : Int) : numO [c, d] 2 = if vI c < 0 ∨ vI d < 0 then none else some (16 * vI c + vI d) := by
  unfold numO
  rw [if_pos (show [c, d].length = 2 from rfl), numI]
  by_cases h1 : vI c < 0
  · rw [if_pos h1, if_pos (.inl h1)]
  · rw [if_neg h1, numI]
    by_cases h2 : vI d < 0
    · rw [if_pos h2, if_pos (.inr h2)]
    · rw [if_neg h2, if_neg (fun h => h.elim h1 h2), numI]
      congr 1; omega
theorem bytes_ba {l : List Int} (h : ∀ x ∈ l, byt x) : bytesI (strOf l) = l := by
  rw [strOf_ba, bytesI_ba, List.map_map]
  conv => rhs; rw [← List.map_id l]
  refine List.map_congr_left fun x hx => ?_
  have := h x hx
  unfold byt at this
  show ((UInt8.ofNat x.toNat).toNat : Int) = x
  rw [UInt8.toNat_ofNat']
  omega
theorem cutL_byt {b : List Int} (hb : ∀ x ∈ b, byt x) (i j : Int) : ∀ x ∈ cutL b i j, byt x := fun x hx => hb x (List.mem_of_mem_take (List.mem_of_mem_drop hx))
theorem strOf_size (l : List Int) : (strOf l).size = l.length := by rw [strOf_ba, ba_size, List.length_map]
def pack (o : Option (List Int)) (out : List Int) : Lp (List Int) (List Int) := match o with | some b => .go (out ++ b) | none => .ret []
theorem goByt0 {p0 : ByteArray} (hp : (bytesI p0).length ≤ 1900) : ∀ (k i : Nat) (out : List Int), i ≤ (bytesI p0).length → (bytesI p0).length - i < k → out.length ≤ i →
    ∃ x, image_Bytes_9.l0 2000 p0 k out (i : Int) = some x ∧ ((∃ b, prsB ((bytesI p0).drop i) = some b ∧ x = .go (out ++ b)) ∨ (prsB ((bytesI p0).drop i) = none ∧ ∃ o, x = .ret o))
  | 0, i, out, _, hk, _ => by omega
  | k + 1, i, out, hi, hk, ho => by
    rw [image_Bytes_9.l0.eq_2]
    have hb := bytesI_byt p0
    generalize hL : bytesI p0 = L at *
    by_cases h0 : i < L.length
    · have hc1 : (cutL L (i : Int) (L.length : Int)).length = L.length - i := by simp [cutL]
      rw [decide_eq_true (by omega), cond_t, cutR_of (by omega) (by omega) (by omega), cond_t, hc1]
      by_cases h1 : i + 1 < L.length
      · have hif : (if ((L.length - i : Nat) : Int) < 2 then ((L.length - i : Nat) : Int) else 2) = 2 := if_neg (by omega)
        have hd : L.drop i = L[i] :: L[i + 1] :: L.drop (i + 2) := by rw [← drop_at h1, ← drop_at h0]
        have hcut : cutL L (i : Int) ((i + 2 : Nat) : Int) = [L[i], L[i + 1]] := by
          unfold cutL
          rw [Int.toNat_natCast, Int.toNat_natCast, List.drop_take, hd, show i + 2 - i = 2 by omega]; rfl
        have hbb : ∀ x ∈ [L[i], L[i + 1]], byt x := by
          intro x hx
          simp only [List.mem_cons, List.not_mem_nil, or_false] at hx
          rcases hx with rfl | rfl <;> exact hb _ (List.getElem_mem _)
        rw [hif, wrap_i64 (x := (i : Int) + 2) (by omega) (by omega), cutR_of (by omega) (by omega) (by omega), cond_t, show (i : Int) + 2 = ((i + 2 : Nat) : Int) by omega, hcut, hd, prsB]
        have hn := goNum (p0 := strOf [L[i], L[i + 1]]) (many := 2) (by omega) (by rw [strOf_size]; simp)
        rw [bytes_ba hbb, two_num] at hn
        rw [show ((2 : Nat) : Int) = 2 from rfl] at hn
        rcases hn with ⟨v, h1, h2⟩ | ⟨h1, n, h2⟩
        · by_cases hv : vI L[i] < 0 ∨ vI L[i + 1] < 0
          · rw [if_pos hv] at h1; cases h1
          · rw [if_neg hv] at h1
            obtain rfl := Option.some.inj h1
            have v0 := vI_in L[i]
            have v1 := vI_in L[i + 1]
            rw [h2, Option.bind_some, Bool.not_true, cond_f, mayBe_of (by simp; omega) (by simp; omega), cond_t, if_neg hv, IntKind.wrap_u8, Int.emod_eq_of_lt (by omega) (by omega)]
            have ih := goByt0 (p0 := p0) (by rw [hL]; exact hp) k (i + 2) (out ++ [16 * vI L[i] + vI L[i + 1]]) (by rw [hL]; omega) (by rw [hL]; omega) (by simp; omega)
            rw [hL] at ih
            obtain ⟨x, e, hx⟩ := ih
            refine ⟨x, e, ?_⟩
            rcases hx with ⟨b, hb, rfl⟩ | ⟨hb, o, rfl⟩
            · rw [hb]; exact .inl ⟨_, rfl, by simp⟩
            · rw [hb]; exact .inr ⟨rfl, o, rfl⟩
        · by_cases hv : vI L[i] < 0 ∨ vI L[i + 1] < 0
          · rw [h2, Option.bind_some, Bool.not_false, cond_t, if_pos hv]
            exact ⟨_, rfl, .inr ⟨rfl, out, rfl⟩⟩
          · rw [if_neg hv] at h1; cases h1
      · have hif : (if ((L.length - i : Nat) : Int) < 2 then ((L.length - i : Nat) : Int) else 2) = 1 := by rw [if_pos (by omega)]; omega
        have hd : L.drop i = [L[i]] := by rw [drop_at h0, List.drop_of_length_le (by omega)]
        have hcut : cutL L (i : Int) ((i : Int) + 1) = [L[i]] := by
          unfold cutL
          rw [List.take_of_length_le (by omega), Int.toNat_natCast, hd]
        rw [hif, wrap_i64 (x := (i : Int) + 1) (by omega) (by omega), cutR_of (by omega) (by omega) (by omega), cond_t, hcut, hd, prsB]
        have hn := goNum (p0 := strOf [L[i]]) (many := 2) (by omega) (by rw [strOf_size]; simp)
        have hz : numO (bytesI (strOf [L[i]])) 2 = none := by unfold numO; rw [if_neg (by rw [bytesI_len, strOf_size]; simp)]
        rw [hz, show ((2 : Nat) : Int) = 2 from rfl] at hn
        rcases hn with ⟨v, h1, h2⟩ | ⟨h1, n, h2⟩
        · cases h1
        · rw [h2, Option.bind_some, Bool.not_false, cond_t]
          exact ⟨_, rfl, .inr ⟨rfl, out, rfl⟩⟩
    · rw [decide_eq_false (by omega), cond_f, List.drop_of_length_le (by omega), prsB]
      exact ⟨_, rfl, .inl ⟨[], rfl, by simp⟩⟩
def bytO (l : List Int) : List Int × Bool := match prsB l with | some b => (b, true) | none => ([], false)
theorem goByt {p0 : ByteArray} (hp : p0.size ≤ 1900) : image_Bytes_9.f 2000 p0 = some (bytO (bytesI p0)) := by
  have hl := bytesI_len p0
  unfold image_Bytes_9.f bytO
  obtain ⟨x, e, hx⟩ := goByt0 (p0 := p0) (by omega) 2000 0 [] (by omega) (by omega) (by simp)
  rw [show ((0 : Nat) : Int) = 0 from rfl] at e
  rw [List.drop_zero] at hx
  rw [show Nat.ble p0.size 140737488355328 = true from Nat.ble_eq_true_of_le (by omega), cond_t, e, Option.bind_some]
  rcases hx with ⟨b, hb, rfl⟩ | ⟨hb, o, rfl⟩
  · rw [hb]; rfl
  · rw [hb]; rfl
theorem refByt0 {p0 : ByteArray} (hp : (bytesI p0).length ≤ 1900) : ∀ (k i : Nat) (out : List Int), i ≤ (bytesI p0).length → (bytesI p0).length - i < k → out.length ≤ i →
    charabancref30_Bytes_10.l0 2000 p0 k out (i : Int) = some (match prsB ((bytesI p0).drop i) with | some b => .go (out ++ b) | none => .ret ())
  | 0, i, out, _, hk, _ => by omega
  | k + 1, i, out, hi, hk, ho => by
    have hl := bytesI_len p0
    rw [charabancref30_Bytes_10.l0.eq_2]
    have hcutI : ∀ j : Nat, j ≤ p0.size → i ≤ j → bytesI (strCut p0 (i : Int) (j : Int)) = ((bytesI p0).take j).drop i := by
      intro j hj hij
      obtain ⟨l, rfl⟩ : ∃ l, p0 = ba l := ⟨_, (ba_of p0).symm⟩
      rw [ba_cut, bytesI_ba, bytesI_ba, Int.toNat_natCast, Int.toNat_natCast, List.map_drop, List.map_take]
    generalize hL : bytesI p0 = L at *
    by_cases h0 : i < L.length
    · rw [decide_eq_true (by omega), cond_t, wrap_i64 (x := (i : Int) + 2) (by omega) (by omega)]
      by_cases h1 : i + 1 < L.length
      · have hif : (if (p0.size : Int) < (i : Int) + 2 then (p0.size : Int) else (i : Int) + 2) = ((i + 2 : Nat) : Int) := by rw [if_neg (by omega)]; omega
        have hd : L.drop i = L[i] :: L[i + 1] :: L.drop (i + 2) := by rw [← drop_at h1, ← drop_at h0]
        have hcut : (L.take (i + 2)).drop i = [L[i], L[i + 1]] := by
          rw [List.drop_take, hd, show i + 2 - i = 2 by omega]; rfl
        rw [hif, cutR_of (by omega) (by omega) (by omega), cond_t, show (2 : Int) = ((2 : Nat) : Int) from rfl, refNum (by omega), hcutI _ (by omega) (by omega), hcut, two_num, hd, prsB, Option.bind_some]
        by_cases hv : vI L[i] < 0 ∨ vI L[i + 1] < 0
        · rw [if_pos hv, if_pos hv]; rfl
        · have v0 := vI_in L[i]
          have v1 := vI_in L[i + 1]
          rw [if_neg hv, if_neg hv]
          dsimp only
          rw [Bool.not_true, cond_f, mayBe_of (by simp; omega) (by simp; omega), cond_t, IntKind.wrap_u8, Int.emod_eq_of_lt (by omega) (by omega), show (i : Int) + ((2 : Nat) : Int) = ((i + 2 : Nat) : Int) by omega]
          have ih := refByt0 (p0 := p0) (by rw [hL]; exact hp) k (i + 2) (out ++ [16 * vI L[i] + vI L[i + 1]]) (by rw [hL]; omega) (by rw [hL]; omega) (by simp; omega)
          rw [hL] at ih
          rw [ih]
          cases prsB (L.drop (i + 2)) with
          | none => rfl
          | some b => simp
      · have hif : (if (p0.size : Int) < (i : Int) + 2 then (p0.size : Int) else (i : Int) + 2) = (p0.size : Int) := if_pos (by omega)
        have hd : L.drop i = [L[i]] := by rw [drop_at h0, List.drop_of_length_le (by omega)]
        have hcut : (L.take p0.size).drop i = [L[i]] := by rw [List.take_of_length_le (by omega), hd]
        rw [hif, cutR_of (by omega) (by omega) (by omega), cond_t, show (2 : Int) = ((2 : Nat) : Int) from rfl, refNum (by omega), hcutI _ (by omega) (by omega), hcut, hd, prsB, Option.bind_some]
        rfl
    · rw [decide_eq_false (by omega), cond_f, List.drop_of_length_le (by omega), prsB]
      simp
theorem refByt {p0 : ByteArray} (hp : p0.size ≤ 1900) : charabancref30_Bytes_10.f 2000 p0 = some (bytO (bytesI p0)) := by
  have hl := bytesI_len p0
  unfold charabancref30_Bytes_10.f bytO
  have e := refByt0 (p0 := p0) (by omega) 2000 0 [] (by omega) (by omega) (by simp)
  rw [show ((0 : Nat) : Int) = 0 from rfl, List.drop_zero] at e
  rw [e, Option.bind_some]
  cases prsB (bytesI p0) <;> rfl
theorem prsB_len : ∀ (n : Nat) (l : List Int), l.length ≤ n → ∀ b, prsB l = some b → 2 * b.length ≤ l.length ∧ ∀ x ∈ b, byt x
  | _, [], _, b, h => by obtain rfl := Option.some.inj h; simp
  | _, [c], _, b, h => by cases h
  | 0, c :: d :: r, hn, b, h => by simp at hn
  | n + 1, c :: d :: r, hn, b, h => by
    rw [prsB] at h
    have v0 := vI_in c
    have v1 := vI_in d
    split at h
    · cases h
    · next hv =>
      cases hr : prsB r with
      | none => rw [hr] at h; cases h
      | some b' =>
        rw [hr] at h
        obtain rfl := Option.some.inj h
        have := prsB_len n r (by simp at hn; omega) b' hr
        refine ⟨by simp only [List.length_cons]; omega, fun x hx => ?_⟩
        rcases List.mem_cons.1 hx with rfl | hx
        · unfold byt; omega
        · exact this.2 x hx
theorem bytO_len (l : List Int) : 2 * (bytO l).1.length ≤ l.length := by
  unfold bytO
  cases h : prsB l with
  | none => simp
  | some b => exact (prsB_len _ l (Nat.le_refl _) b h).1
/-! ### one of 0 to 8 -/
def fewO (l : List Int) : Option Int := match l with | [c] => if 48 ≤ c ∧ c ≤ 56 then some (c - 48) else none | _ => none
theorem goFew {p0 : ByteArray} (hp : p0.size ≤ 1900) : (∃ v, fewO (bytesI p0) = some v ∧ image_few_39.f 2000 p0 = some (v, true)) ∨ (fewO (bytesI p0) = none ∧ ∃ n, image_few_39.f 2000 p0 = some (n, false)) := by
  have hl := bytesI_len p0
  have hb := bytesI_byt p0
  unfold image_few_39.f
  rw [show cutR 0 9 D16.size = true from rfl, cond_t, show Nat.ble p0.size 140737488355328 = true from Nat.ble_eq_true_of_le (by omega), cond_t, mayBe_of (by simp; omega) (by simp; omega), cond_t, show inR 0 (bytesI p0 ++ ([0] : List Int)).length = true from inR_nat (i := 0) (by simp), cond_t]
  have hx : ∀ c : Int, ∃ n, strings_IndexByte_49.f 2000 (strCut D16 0 9) c = some n := fun c => ⟨_, rfl⟩
  by_cases h1 : p0.size = 1
  · obtain ⟨c, hc⟩ : ∃ c, bytesI p0 = [c] := by
      cases hq : bytesI p0 with
      | nil => rw [hq] at hl; simp at hl; omega
      | cons c r =>
        cases r with
        | nil => exact ⟨c, rfl⟩
        | cons d r => rw [hq] at hl; simp at hl; omega
    have hcb : byt c := hb c (by rw [hc]; simp)
    have key : ∀ c : Fin 256, strings_IndexByte_49.f 2000 (strCut D16 0 9) (c.val : Int) = some (if 48 ≤ (c.val : Int) ∧ (c.val : Int) ≤ 56 then (c.val : Int) - 48 else -1) := by decide +kernel
    have k2 : strings_IndexByte_49.f 2000 (strCut D16 0 9) c = some (if 48 ≤ c ∧ c ≤ 56 then c - 48 else -1) := by
      unfold byt at hcb
      have := key ⟨c.toNat, by omega⟩
      simpa [Int.toNat_of_nonneg hcb.1] using this
    rw [hc, show rdD ([c] ++ [0]) 0 = c from rfl, k2, Option.bind_some, h1, show (((1 : Nat) : Int) == 1) = true from rfl, cond_t, fewO]
    by_cases hcc : 48 ≤ c ∧ c ≤ 56
    · rw [if_pos hcc, if_pos hcc]
      exact .inl ⟨_, rfl, by rw [decide_eq_true (by omega)]⟩
    · rw [if_neg hcc, if_neg hcc]
      exact .inr ⟨rfl, -1, rfl⟩
  · have hf : fewO (bytesI p0) = none := by
      cases hq : bytesI p0 with
      | nil => rfl
      | cons c r =>
        cases r with
        | nil => rw [hq] at hl; simp at hl; omega
        | cons d r => rfl
    obtain ⟨n, hn⟩ := hx (rdD (bytesI p0 ++ [0]) 0)
    rw [hn, Option.bind_some, show ((p0.size : Int) == 1) = false by simp; omega, cond_f, hf]
    exact .inr ⟨rfl, n, rfl⟩
theorem refFew {p0 : ByteArray} : charabancref30_few_46.f 2000 p0 = some (match fewO (bytesI p0) with | some v => (v, true) | none => (0, false)) := by
  have hl := bytesI_len p0
  have hb := bytesI_byt p0
  unfold charabancref30_few_46.f
  simp only [Let]
  by_cases h1 : p0.size = 1
  · obtain ⟨c, hc⟩ : ∃ c, bytesI p0 = [c] := by
      cases hq : bytesI p0 with
      | nil => rw [hq] at hl; simp at hl; omega
      | cons c r =>
        cases r with
        | nil => exact ⟨c, rfl⟩
        | cons d r => rw [hq] at hl; simp at hl; omega
    have hcb : byt c := hb c (by rw [hc]; simp)
    have e0 : btD p0 0 = c := by
      have := bt_bytes p0 (i := 0) (by omega)
      rw [hc] at this
      exact this
    unfold byt at hcb
    rw [show ((p0.size : Int) != 1) = false by simp; omega, cond_f, show inR 0 p0.size = true from inR_nat (i := 0) (by omega), cond_t, e0, hc, fewO]
    by_cases h48 : c < 48
    · rw [decide_eq_true h48, cond_t, cond_t, if_neg (by omega)]
    · rw [decide_eq_false h48, cond_f, cond_t]
      by_cases h56 : c > 56
      · rw [decide_eq_true h56, cond_t, if_neg (by omega)]
      · rw [decide_eq_false h56, cond_f, if_pos (by omega), wrap_i64 (x := c) (by omega) (by omega), wrap_i64 (by omega) (by omega)]
  · have hf : fewO (bytesI p0) = none := by
      cases hq : bytesI p0 with
      | nil => rfl
      | cons c r =>
        cases r with
        | nil => rw [hq] at hl; simp at hl; omega
        | cons d r => rfl
    rw [show ((p0.size : Int) != 1) = true by simp; omega, cond_t, cond_t, hf]
end Go.Proofs.YtbcepghanbkncaaDoor.Im
