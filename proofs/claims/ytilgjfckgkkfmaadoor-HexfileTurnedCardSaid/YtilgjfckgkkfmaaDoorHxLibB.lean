/- A line's record: the program's and the reference's are the same. -/
import Derived.Test.YtilgjfckgkkfmaaDoorHxLibA
import Derived.Test.YtilgjfckgkkfmaaDoorEngMid
set_option linter.unusedVariables false
set_option linter.unusedSimpArgs false
namespace Go.Proofs.YtilgjfckgkkfmaaDoor.Hx
open Go.RowKit Go.Eng
def valI (c : Int) : Int := if 48 ≤ c ∧ c ≤ 57 then c - 48 else if 65 ≤ c ∧ c ≤ 70 then c - 55 else -1
theorem valI_in (c : Int) : -1 ≤ valI c ∧ valI c ≤ 15 := by unfold valI; split <;> (try split) <;> omega
def prsI : List Int → List Int → Option (List Int)
  | [], out => some out
  | [_], _ => none
  | a :: b :: r, out => if 0 ≤ valI a ∧ 0 ≤ valI b then prsI r (out ++ [16 * valI a + valI b]) else none
def noR : Int × Int × List Int × Int := (0, 0, [], 330)
def parseB (b : List Int) : Int × Int × List Int × Int :=
  if b.length < 5 ∨ (b.length : Int) ≠ rdD b 0 + 5 then noR
  else if sumI (rdD b 3) (256 * rdD b 1 + rdD b 2) (cutL b 4 ((b.length : Int) - 1)) ≠ rdD b ((b.length : Int) - 1) then (0, 0, [], 331)
  else (rdD b 3, 256 * rdD b 1 + rdD b 2, cutL b 4 ((b.length : Int) - 1), 0)
def parseI (l : List Int) : Int × Int × List Int × Int := if l.head? = some 58 then (match prsI l.tail [] with | some b => parseB b | none => noR) else noR
theorem prsI_byt : ∀ (l out b : List Int), prsI l out = some b → (∀ x ∈ out, byt x) → ∀ x ∈ b, byt x
  | [], out, b, h, ho => by simp only [prsI, Option.some.injEq] at h; subst h; exact ho
  | [_], out, b, h, ho => by simp [prsI] at h
  | c :: d :: r, out, b, h, ho => by
    rw [prsI] at h
    split at h
    · next hv =>
      refine prsI_byt r _ b h fun x hx => ?_
      rcases List.mem_append.1 hx with hx | hx
      · exact ho x hx
      · have h1 := valI_in c
        have h2 := valI_in d
        obtain rfl := List.mem_singleton.1 hx
        unfold byt
        omega
    · cases h
theorem prsI_len : ∀ (l out b : List Int), prsI l out = some b → 2 * b.length = 2 * out.length + l.length
  | [], out, b, h => by simp only [prsI, Option.some.injEq] at h; subst h; simp
  | [_], out, b, h => by simp [prsI] at h
  | c :: d :: r, out, b, h => by
    rw [prsI] at h
    split at h
    · have := prsI_len r _ b h
      simp at this ⊢
      omega
    · cases h
theorem index16 {c : Int} (h : byt c) : strings_IndexByte_70.f 1000 D16 c = some (valI c) := by
  have key : ∀ c : Fin 256, strings_IndexByte_70.f 1000 D16 (c.val : Int) = some (valI (c.val : Int)) := by decide +kernel
  unfold byt at h
  have := key ⟨c.toNat, by omega⟩
  simpa [Int.toNat_of_nonneg h.1] using this
theorem bor16 {x y : Int} (hx : 0 ≤ x ∧ x < 16) (hy : 0 ≤ y ∧ y < 16) : IntKind.wrap .u8 (bor .i64 (IntKind.wrap .i64 (x * 2 ^ 4)) y) = 16 * x + y := by
  have key : ∀ (x y : Fin 16), IntKind.wrap .u8 (bor .i64 (IntKind.wrap .i64 ((x.val : Int) * 2 ^ 4)) (y.val : Int)) = 16 * (x.val : Int) + (y.val : Int) := by decide +kernel
  have := key ⟨x.toNat, by omega⟩ ⟨y.toNat, by omega⟩
  simpa [Int.toNat_of_nonneg hx.1, Int.toNat_of_nonneg hy.1] using this
theorem whole_yes {a b : Int} (ha : byt a) (hb : byt b) (h : 0 ≤ valI a ∧ 0 ≤ valI b) : hexfile_whole_35.f 1000 a b = some (16 * valI a + valI b, true) := by
  have h1 := valI_in a
  have h2 := valI_in b
  unfold hexfile_whole_35.f
  rw [index16 ha, Option.bind_some, index16 hb, Option.bind_some, decide_eq_true (show valI a ≥ 0 from h.1), cond_t, bor16 (by omega) (by omega), decide_eq_true (show valI b ≥ 0 from h.2)]
theorem whole_no {a b : Int} (ha : byt a) (hb : byt b) (h : ¬(0 ≤ valI a ∧ 0 ≤ valI b)) : ∃ v, hexfile_whole_35.f 1000 a b = some (v, false) := by
  unfold hexfile_whole_35.f
  rw [index16 ha, Option.bind_some, index16 hb, Option.bind_some]
  by_cases h1 : 0 ≤ valI a
  · rw [decide_eq_true (show valI a ≥ 0 from h1), cond_t, decide_eq_false (show ¬ valI b ≥ 0 from fun h2 => h ⟨h1, h2⟩)]
    exact ⟨_, rfl⟩
  · rw [decide_eq_false (show ¬ valI a ≥ 0 from h1), cond_f]
    exact ⟨_, rfl⟩
theorem goPairs (p0 : ByteArray) : ∀ (l out : List Int) (k : Nat), (∀ x ∈ l, byt x) → out.length + l.length ≤ 2000 → l.length < k →
    ∃ x, hexfile_Parse_14.l0 1000 p0 k l out = some x ∧ ((∃ b, prsI l out = some b ∧ x = Lp.go ([], b)) ∨ (prsI l out = none ∧ (x = Lp.ret () ∨ ∃ r o, r ≠ [] ∧ x = Lp.go (r, o))))
  | _, _, 0, _, _, hk => by omega
  | [], out, k + 1, _, _, _ => by
    rw [hexfile_Parse_14.l0.eq_2, decide_eq_false (by simp), cond_f]
    exact ⟨_, rfl, .inl ⟨out, rfl, rfl⟩⟩
  | [x], out, k + 1, _, _, _ => by
    rw [hexfile_Parse_14.l0.eq_2, decide_eq_false (by simp), cond_f]
    exact ⟨_, rfl, .inr ⟨rfl, .inr ⟨_, _, by simp, rfl⟩⟩⟩
  | a :: b :: r, out, k + 1, hb, ho, hk => by
    simp only [List.length_cons] at ho hk
    rw [hexfile_Parse_14.l0.eq_2, decide_eq_true (by simp only [List.length_cons]; omega), cond_t, cond_of (by simp only [inR, List.length_cons, Bool.and_eq_true, decide_eq_true_eq]; omega), cond_of (by simp only [inR, List.length_cons, Bool.and_eq_true, decide_eq_true_eq]; omega)]
    show ∃ x, (hexfile_whole_35.f 1000 a b).bind _ = _ ∧ _
    have ha := hb a List.mem_cons_self
    have hb' := hb b (List.mem_cons_of_mem _ List.mem_cons_self)
    by_cases hv : 0 ≤ valI a ∧ 0 ≤ valI b
    · rw [whole_yes ha hb' hv, Option.bind_some]
      simp only [Bool.not_true, cond_f]
      rw [cutR_of (by omega) (by simp; omega) (by omega), cond_t, mayBe_of (by simp; omega) (by simp; omega), cond_t]
      have e : cutL (a :: b :: r) 2 ((a :: b :: r).length : Int) = r := by simp only [cutL, Int.toNat_natCast, List.take_length]; rfl
      rw [e, prsI, if_pos hv]
      exact goPairs p0 r _ k (fun x hx => hb x (List.mem_cons_of_mem _ (List.mem_cons_of_mem _ hx))) (by simp; omega) (by omega)
    · obtain ⟨v, e⟩ := whole_no ha hb' hv
      rw [e, Option.bind_some]
      simp only [Bool.not_false, cond_t]
      rw [prsI, if_neg hv]
      exact ⟨_, rfl, .inr ⟨rfl, .inl rfl⟩⟩
theorem bytesI_byt (s : ByteArray) : ∀ x ∈ bytesI s, byt x := by
  intro x hx
  obtain ⟨b, _, rfl⟩ := List.mem_map.1 hx
  have := b.toNat_lt
  unfold byt
  omega
theorem bytesI_ba (l : List UInt8) : bytesI (ba l) = l.map fun b => (b.toNat : Int) := rfl
theorem word16 {h l : Int} (hh : byt h) (hl : byt l) : bits_Word_36.f 1000 h l = some (256 * h + l) := by
  unfold byt at hh hl
  unfold bits_Word_36.f
  rw [IntKind.wrap_u16, IntKind.wrap_u16, IntKind.wrap_u16, Int.emod_eq_of_lt hh.1 (by omega), Int.emod_eq_of_lt (a := l) hl.1 (by omega)]
  have h1 : (BitVec.ofInt 16 (h * 2 ^ 8 % 65536) ||| BitVec.ofInt 16 l).toNat = 2 ^ 8 * h.toNat + l.toNat := by
    have a1 : (h * 2 ^ 8 % 65536 % ((2 ^ 16 : Nat) : Int)).toNat = 2 ^ 8 * h.toNat := by omega
    have a2 : (l % ((2 ^ 16 : Nat) : Int)).toNat = l.toNat := by omega
    rw [BitVec.toNat_or, BitVec.toNat_ofInt, BitVec.toNat_ofInt, a1, a2, Nat.two_pow_add_eq_or_of_lt (i := 8) (b := l.toNat) (by omega) h.toNat]
  have : bor .u16 (h * 2 ^ 8 % 65536) l = IntKind.wrap .u16 (((BitVec.ofInt 16 (h * 2 ^ 8 % 65536) ||| BitVec.ofInt 16 l).toNat : Nat) : Int) := rfl
  rw [this, h1, IntKind.wrap_u16]
  congr 1
  omega
theorem rword16 {h l : Int} (hh : byt h) (hl : byt l) : charabancref01_Word_38.f 1000 h l = some (256 * h + l) := by
  unfold byt at hh hl
  unfold charabancref01_Word_38.f
  rw [wrap_i64 (x := h) (by omega) (by omega), wrap_i64 (x := l) (by omega) (by omega), wrap_i64 (x := 256 * h) (by omega) (by omega), wrap_i64 (by omega) (by omega), IntKind.wrap_u16]
  congr 1
  omega
theorem rdD_byt {b : List Int} (hb : ∀ x ∈ b, byt x) {i : Nat} (hi : i < b.length) : byt (rdD b (i : Int)) := by rw [rdD_nat b hi]; exact hb _ (List.getElem_mem hi)
theorem cutL_byt {b : List Int} (hb : ∀ x ∈ b, byt x) (i j : Int) : ∀ x ∈ cutL b i j, byt x := fun x hx => hb x (List.mem_of_mem_take (List.mem_of_mem_drop hx))
/-- What stands behind the bytes. -/
theorem goRest {b : List Int} (hb : ∀ x ∈ b, byt x) (hl : b.length ≤ 400) (E : Option (Int × Int × List Int × Int)) (hE : E = some noR) :
    Let (fun (t117 : Bool) => cond t117 E (cond (inR 3 b.length) (cond (inR 1 b.length) (cond (inR 2 b.length) ((bits_Word_36.f 1000 (rdD b 1) (rdD b 2)).bind fun t151 => cond (cutR 4 (IntKind.wrap .i64 ((b.length : Int) - 1)) b.length) ((hexfile_Sum_17.f 1000 (rdD b 3) t151 (cutL b 4 (IntKind.wrap .i64 ((b.length : Int) - 1)))).bind fun t183 => cond (inR (IntKind.wrap .i64 ((b.length : Int) - 1)) b.length) (cond (t183 != (rdD b (IntKind.wrap .i64 ((b.length : Int) - 1)))) (some (0, 0, ([] : List Int), 331)) (some ((rdD b 3), t151, (cutL b 4 (IntKind.wrap .i64 ((b.length : Int) - 1))), 0))) none) none) none) none) none)) (fun j120 => cond (decide ((b.length : Int) < 5)) (j120 true) (cond (inR 0 b.length) (j120 ((b.length : Int) != (IntKind.wrap .i64 ((IntKind.wrap .i64 (rdD b 0)) + 5)))) none))
    = some (parseB b) := by
  subst hE
  simp only [Let]
  unfold parseB
  by_cases h5 : b.length < 5
  · rw [decide_eq_true (by omega), cond_t, cond_t, if_pos (.inl h5)]
  · have h0 := rdD_byt hb (i := 0) (by omega)
    have h1 := rdD_byt hb (i := 1) (by omega)
    have h2 := rdD_byt hb (i := 2) (by omega)
    have e0 := h0; have e1 := h1; have e2 := h2
    unfold byt at e0 e1 e2
    rw [show ((0 : Nat) : Int) = 0 from rfl] at h0 e0
    rw [show ((1 : Nat) : Int) = 1 from rfl] at h1 e1
    rw [show ((2 : Nat) : Int) = 2 from rfl] at h2 e2
    rw [decide_eq_false (by omega), cond_f, show inR 0 b.length = true from inR_nat (i := 0) (by omega), cond_t, wrap_i64 (x := rdD b 0) (by omega) (by omega), wrap_i64 (x := rdD b 0 + 5) (by omega) (by omega)]
    by_cases hne : (b.length : Int) ≠ rdD b 0 + 5
    · rw [show ((b.length : Int) != rdD b 0 + 5) = true by simpa using hne, cond_t, if_pos (.inr hne)]
    · rw [show ((b.length : Int) != rdD b 0 + 5) = false by simpa using hne, cond_f, if_neg (fun h => h.elim h5 hne), show inR 3 b.length = true from inR_nat (i := 3) (by omega), cond_t, show inR 1 b.length = true from inR_nat (i := 1) (by omega), cond_t,
        show inR 2 b.length = true from inR_nat (i := 2) (by omega), cond_t, word16 h1 h2, Option.bind_some, wrap_i64 (x := (b.length : Int) - 1) (by omega) (by omega), cutR_of (by omega) (by omega) (by omega), cond_t,
        goSum (by simp only [cutL, List.length_drop, List.length_take]; omega) (by omega), Option.bind_some, show inR ((b.length : Int) - 1) b.length = true from inR_iff.2 (by omega), cond_t]
      by_cases hs : sumI (rdD b 3) (256 * rdD b 1 + rdD b 2) (cutL b 4 ((b.length : Int) - 1)) = rdD b ((b.length : Int) - 1)
      · rw [hs, show (rdD b ((b.length : Int) - 1) != rdD b ((b.length : Int) - 1)) = false by simp, cond_f, if_neg (by simp)]
      · rw [show (sumI (rdD b 3) (256 * rdD b 1 + rdD b 2) (cutL b 4 ((b.length : Int) - 1)) != rdD b ((b.length : Int) - 1)) = true by simpa using hs, cond_t, if_pos hs]
theorem cut58 (s : ByteArray) : strings_CutPrefix_33.f 1000 s (⟨#[58]⟩ : ByteArray) = some (if (bytesI s).head? = some 58 then (ba s.data.toList.tail, true) else (s, false)) := by
  obtain ⟨l, rfl⟩ : ∃ l, s = ba l := ⟨_, (ba_of s).symm⟩
  unfold strings_CutPrefix_33.f
  rw [ba_list, bytesI_ba]
  have e58 : (⟨#[58]⟩ : ByteArray).data.toList = [58] := rfl
  rw [e58]
  cases l with
  | nil => rfl
  | cons c l =>
    have hc : (c.toNat : Int) = 58 ↔ c = 58 := by
      constructor
      · intro h; apply UInt8.toNat_inj.1; have : c.toNat = 58 := by omega
        rw [this]; rfl
      · intro h; rw [h]; rfl
    by_cases h : c = 58
    · subst h
      rfl
    · have h' : ¬ (c.toNat : Int) = 58 := fun h2 => h (hc.1 h2)
      have hp : Lib.hasPrefix (c :: l) [58] = false := by simpa [Lib.hasPrefix, List.isPrefixOf] using fun h2 => h h2.symm
      rw [if_neg (by simpa using h')]
      unfold Lib.trimPrefix
      rw [hp]
      rfl
theorem goParse {p0 : ByteArray} (hp : p0.size ≤ 800) : hexfile_Parse_14.f 1000 p0 = some (parseI (bytesI p0)) := by
  unfold hexfile_Parse_14.f
  have hsz := bytesI_len p0
  rw [cut58, Option.bind_some]
  by_cases h : (bytesI p0).head? = some 58
  · have htl : bytesI (ba p0.data.toList.tail) = (bytesI p0).tail := by rw [bytesI_ba]; unfold bytesI; rw [List.map_tail]
    have hts : (ba p0.data.toList.tail).size ≤ 800 := by rw [← bytesI_len, htl, List.length_tail]; omega
    obtain ⟨x, e, hx⟩ := goPairs p0 (bytesI p0).tail [] 1000 (fun x hx => bytesI_byt p0 x (List.mem_of_mem_tail hx)) (by simp only [List.length_nil, List.length_tail]; omega) (by simp only [List.length_tail]; omega)
    rw [if_pos h, show Nat.ble (ba p0.data.toList.tail, true).1.size 140737488355328 = true from Nat.ble_eq_true_of_le (by show (ba p0.data.toList.tail).size ≤ _; omega), cond_t]
    show Let _ (fun j108 => (hexfile_Parse_14.l0 1000 p0 1000 (bytesI (ba p0.data.toList.tail)) []).bind _) = _
    rw [htl, e]
    simp only [Let, Option.bind_some, Bool.not_true, cond_f]
    unfold parseI
    rw [if_pos h]
    rcases hx with ⟨b, hb, rfl⟩ | ⟨hb, rfl | ⟨r, o, hr, rfl⟩⟩
    · rw [hb]
      have h1 := prsI_byt _ _ _ hb (by simp)
      have h2 := prsI_len _ _ _ hb
      have h3 : b.length ≤ 400 := by simp only [List.length_nil, List.length_tail] at h2; omega
      have := goRest h1 h3 _ rfl
      simp only [Let, Lp.elim, noR] at this ⊢
      exact this
    · rw [hb]; rfl
    · rw [hb]
      have : ((r.length : Int) == 0) = false := by cases r with | nil => exact absurd rfl hr | cons => simp; omega
      simp only [Lp.elim, this, Bool.not_false, cond_t]
      rfl
  · obtain ⟨x, e, hx⟩ := goPairs p0 (bytesI p0) [] 1000 (bytesI_byt p0) (by simp only [List.length_nil]; omega) (by omega)
    rw [if_neg h, show Nat.ble (p0, false).1.size 140737488355328 = true from Nat.ble_eq_true_of_le (by show p0.size ≤ _; omega), cond_t]
    show Let _ (fun j108 => (hexfile_Parse_14.l0 1000 p0 1000 (bytesI p0) []).bind _) = _
    rw [e]
    simp only [Let, Option.bind_some, Bool.not_false, cond_t]
    unfold parseI
    rw [if_neg h]
    rcases hx with ⟨b, hb, rfl⟩ | ⟨hb, rfl | ⟨r, o, hr, rfl⟩⟩ <;> rfl
/-! ### the reference's -/
theorem bt_bytes (s : ByteArray) {i : Nat} (h : i < s.size) : btD s (i : Int) = rdD (bytesI s) (i : Int) := by
  obtain ⟨l, rfl⟩ : ∃ l, s = ba l := ⟨_, (ba_of s).symm⟩
  rw [ba_size] at h
  rw [ba_bt l h, bytesI_ba, rdD_nat _ (by simpa using h), List.getElem_map]
theorem value_of {c : Int} (h : byt c) : charabancref33_value_71.f 1000 c = some (valI c) := by
  have key : ∀ c : Fin 256, charabancref33_value_71.f 1000 (c.val : Int) = some (valI (c.val : Int)) := by decide +kernel
  unfold byt at h
  have := key ⟨c.toNat, by omega⟩
  simpa [Int.toNat_of_nonneg h.1] using this
theorem refBytes0 {q : ByteArray} (hq : q.size ≤ 800) : ∀ (k i : Nat) (out : List Int), i ≤ q.size → q.size - i < k → out.length ≤ 1000 + i →
    charabancref33_bytes_37.l0 1000 q k out (i : Int) = some (match prsI ((bytesI q).drop i) out with | some b => Lp.go b | none => Lp.ret ())
  | 0, i, out, _, hk, _ => by omega
  | k + 1, i, out, hi, hk, ho => by
    have hl := bytesI_len q
    rw [charabancref33_bytes_37.l0.eq_2]
    by_cases h0 : i < q.size
    · have hd0 : (bytesI q).drop i = rdD (bytesI q) (i : Int) :: (bytesI q).drop (i + 1) := by rw [rdD_nat _ (by omega)]; exact drop_at (by omega)
      rw [decide_eq_true (by omega), cond_t, wrap_i64 (x := (i : Int) + 1) (by omega) (by omega), hd0]
      by_cases h1 : i + 1 < q.size
      · have hd1 : (bytesI q).drop (i + 1) = rdD (bytesI q) ((i + 1 : Nat) : Int) :: (bytesI q).drop (i + 2) := by rw [rdD_nat _ (by omega)]; exact drop_at (by omega)
        have b0 := rdD_byt (bytesI_byt q) (i := i) (by omega)
        have b1 := rdD_byt (bytesI_byt q) (i := i + 1) (by omega)
        have v0 := valI_in (rdD (bytesI q) (i : Int))
        have v1 := valI_in (rdD (bytesI q) ((i + 1 : Nat) : Int))
        rw [show ((i : Int) + 1 == (q.size : Int)) = false by simp; omega, cond_f, inR_nat h0, cond_t, bt_bytes q h0, value_of b0, Option.bind_some, show (i : Int) + 1 = ((i + 1 : Nat) : Int) by omega, inR_nat h1, cond_t, bt_bytes q h1, value_of b1, Option.bind_some, hd1, prsI]
        simp only [Let]
        by_cases c0 : valI (rdD (bytesI q) (i : Int)) < 0
        · rw [decide_eq_true c0, cond_t, cond_t, if_neg (by omega)]
        · by_cases c1 : valI (rdD (bytesI q) ((i + 1 : Nat) : Int)) < 0
          · rw [decide_eq_false c0, cond_f, decide_eq_true c1, cond_t, if_neg (by omega)]
          · rw [decide_eq_false c0, cond_f, decide_eq_false c1, cond_f, if_pos (by omega), mayBe_of (by simp; omega) (by simp; omega), cond_t, wrap_i64 (x := 16 * _) (by omega) (by omega), wrap_i64 (x := 16 * _ + _) (by omega) (by omega), IntKind.wrap_u8, Int.emod_eq_of_lt (by omega) (by omega), wrap_i64 (x := (i : Int) + 2) (by omega) (by omega)]
            exact refBytes0 hq k (i + 2) _ (by omega) (by omega) (by simp; omega)
      · rw [show ((i : Int) + 1 == (q.size : Int)) = true by simp; omega, cond_t, List.drop_of_length_le (by omega)]
        rfl
    · rw [decide_eq_false (by omega), cond_f, List.drop_of_length_le (by omega)]
      rfl
theorem refBytes {q : ByteArray} (hq : q.size ≤ 800) : charabancref33_bytes_37.f 1000 q = some (match prsI (bytesI q) [] with | some b => (b, true) | none => ([], false)) := by
  unfold charabancref33_bytes_37.f
  have := refBytes0 hq 1000 0 [] (by omega) (by omega) (by simp)
  rw [show ((0 : Nat) : Int) = 0 from rfl, List.drop_zero] at this
  rw [this, Option.bind_some]
  cases prsI (bytesI q) [] <;> rfl
theorem refRest {b : List Int} (hb : ∀ x ∈ b, byt x) (hl : b.length ≤ 400) (E : Option (Int × Int × List Int × Int)) (hE : E = some noR) :
    Let (fun (t34 : Bool) => cond t34 E (cond (inR 3 b.length) (cond (inR 1 b.length) (cond (inR 2 b.length) ((charabancref01_Word_38.f 1000 (rdD b 1) (rdD b 2)).bind fun t68 => cond (cutR 4 (IntKind.wrap .i64 ((b.length : Int) - 1)) b.length) ((charabancref33_Sum_18.f 1000 (rdD b 3) t68 (cutL b 4 (IntKind.wrap .i64 ((b.length : Int) - 1)))).bind fun t100 => cond (inR (IntKind.wrap .i64 ((b.length : Int) - 1)) b.length) (cond (t100 != (rdD b (IntKind.wrap .i64 ((b.length : Int) - 1)))) (some (0, 0, ([] : List Int), 331)) (some ((rdD b 3), t68, (cutL b 4 (IntKind.wrap .i64 ((b.length : Int) - 1))), 0))) none) none) none) none) none)) (fun j120 => cond (decide ((b.length : Int) < 5)) (j120 true) (cond (inR 0 b.length) (j120 ((b.length : Int) != (IntKind.wrap .i64 ((IntKind.wrap .i64 (rdD b 0)) + 5)))) none))
    = some (parseB b) := by
  rw [← goRest hb hl E hE]
  simp only [Let]
  by_cases h5 : b.length < 5
  · rw [decide_eq_true (by omega)]; rfl
  · have h1 := rdD_byt hb (i := 1) (by omega)
    have h2 := rdD_byt hb (i := 2) (by omega)
    have h3 := rdD_byt hb (i := 3) (by omega)
    have e1 := h1; have e2 := h2
    unfold byt at e1 e2
    rw [show ((1 : Nat) : Int) = 1 from rfl] at h1 e1
    rw [show ((2 : Nat) : Int) = 2 from rfl] at h2 e2
    rw [show ((3 : Nat) : Int) = 3 from rfl] at h3
    have ec : (cutL b 4 (IntKind.wrap .i64 ((b.length : Int) - 1))).length ≤ 400 := by simp only [cutL, List.length_drop, List.length_take]; omega
    rw [word16 h1 h2, rword16 h1 h2, Option.bind_some, Option.bind_some, goSum ec (by omega), refSum ec h3 (by omega) (cutL_byt hb _ _)]
theorem refParse {p0 : ByteArray} (hp : p0.size ≤ 800) : charabancref33_Parse_15.f 1000 p0 = some (parseI (bytesI p0)) := by
  unfold charabancref33_Parse_15.f
  have hl := bytesI_len p0
  unfold parseI
  simp only [Let]
  by_cases h1 : p0.size < 1
  · have : bytesI p0 = [] := List.eq_nil_of_length_eq_zero (by omega)
    rw [decide_eq_true (by omega), cond_t, cond_t, if_neg (by rw [this]; simp)]
    rfl
  · have hh : (bytesI p0).head? = some (rdD (bytesI p0) 0) := by
      cases hb : bytesI p0 with
      | nil => rw [hb] at hl; simp at hl; omega
      | cons c l => rfl
    have e0 := bt_bytes p0 (i := 0) (by omega)
    rw [show ((0 : Nat) : Int) = 0 from rfl] at e0
    rw [decide_eq_false (by omega), cond_f, show inR 0 p0.size = true from inR_nat (i := 0) (by omega), cond_t, e0, hh]
    by_cases h58 : rdD (bytesI p0) 0 = 58
    · rw [h58, show ((58 : Int) != 58) = false from rfl, cond_f, if_pos rfl, cutR_of (by omega) (by omega) (by omega), cond_t]
      have hs : bytesI (strCut p0 1 (p0.size : Int)) = (bytesI p0).tail := by
        obtain ⟨l, rfl⟩ : ∃ l, p0 = ba l := ⟨_, (ba_of p0).symm⟩
        rw [ba_cut, bytesI_ba, bytesI_ba, ba_size, Int.toNat_natCast, List.take_length]
        show (l.drop 1).map _ = _
        rw [List.drop_one, List.map_tail]
      have hz : (strCut p0 1 (p0.size : Int)).size ≤ 800 := by rw [← bytesI_len, hs, List.length_tail]; omega
      rw [refBytes hz, hs, Option.bind_some]
      cases hb : prsI (bytesI p0).tail [] with
      | none => rfl
      | some b =>
        have g1 := prsI_byt _ _ _ hb (by simp)
        have g2 := prsI_len _ _ _ hb
        have g3 : b.length ≤ 400 := by simp only [List.length_nil, List.length_tail] at g2; omega
        have := refRest g1 g3 _ rfl
        simp only [Let, noR, Bool.not_true, cond_f] at this ⊢
        exact this
    · rw [show (rdD (bytesI p0) 0 != 58) = true by simpa using h58, cond_t, if_neg (by simpa using h58)]
      rfl
end Go.Proofs.YtilgjfckgkkfmaaDoor.Hx
