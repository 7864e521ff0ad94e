/- What a line tells a config: the program's and the reference's are the same. -/
import Derived.Test.YtbcepghanbkncaaDoorImLibA
import Derived.Test.YtbcepghanbkncaaDoorImBkLibD
set_option linter.unusedVariables false
set_option linter.unusedSimpArgs false
namespace Go.Proofs.YtbcepghanbkncaaDoor.Im
open Go.RowKit Go.Eng
theorem load_l0 (r : List Int) (n0 b0 : Int) (l0 : List Sp) (p : Int) (bs : List Int) (hb : bs.length ≤ 900) : ∀ (m k i : Nat) (n bk : Int) (l : List Sp), i + m = bs.length → m < k → l.length ≤ 1050 + i →
    banks_Load_44.l0 2000 r n0 b0 l0 p bs k n bk l (i : Int) = some (n, bk, ldS p (bs.drop i) i l) := by
  intro m
  induction m with
  | zero =>
    intro k i n bk l hi hk hl
    obtain ⟨k, rfl⟩ : ∃ j, k = j + 1 := ⟨k - 1, by omega⟩
    rw [banks_Load_44.l0, cond_no (by simp; omega), List.drop_of_length_le (by omega)]
    rfl
  | succ m ih =>
    intro k i n bk l hi hk hl
    obtain ⟨k, rfl⟩ : ∃ j, k = j + 1 := ⟨k - 1, by omega⟩
    have hlt : i < bs.length := by omega
    have h2 := ptS_length l (IntKind.wrap .i64 (p + (i : Int))) bs[i]
    rw [banks_Load_44.l0, cond_of (by simp; omega), cond_of (inR_nat hlt), rdD_nat bs hlt, put_eq (by omega) (by omega), drop_at hlt, wrap_nat (by omega)]
    simp only [Option.bind_some, ldS]
    exact ih k (i + 1) _ _ _ (by omega) (by omega) (by omega)
theorem load_eq {r : List Int} {n bk : Int} {l : List Sp} {p : Int} {bs : List Int} (hb : bs.length ≤ 900) (hl : l.length ≤ 1050) : banks_Load_44.f 2000 r n bk l p bs = some (r, n, bk, ldS p bs 0 l) := by
  unfold banks_Load_44.f
  have := load_l0 r n bk l p bs hb bs.length 2000 0 n bk l (by omega) (by omega) (by omega)
  erw [this]
  rfl
theorem rload_l0 (r0 : List Int) (n0 b0 : Int) (l0 : List Sp) (p : Int) (bs : List Int) (hb : bs.length ≤ 900) : ∀ (m k i : Nat) (r : List Int) (n bk : Int) (l : List Sp), i + m = bs.length → m < k → l.length ≤ 1050 + i →
    charabancref19_Load_47.l0 2000 r0 n0 b0 l0 p bs k r n bk l (i : Int) = some (r, n, bk, ldS p (bs.drop i) i l) := by
  intro m
  induction m with
  | zero =>
    intro k i r n bk l hi hk hl
    obtain ⟨k, rfl⟩ : ∃ j, k = j + 1 := ⟨k - 1, by omega⟩
    rw [charabancref19_Load_47.l0, cond_no (by simp; omega), List.drop_of_length_le (by omega)]
    rfl
  | succ m ih =>
    intro k i r n bk l hi hk hl
    obtain ⟨k, rfl⟩ : ∃ j, k = j + 1 := ⟨k - 1, by omega⟩
    have hlt : i < bs.length := by omega
    have h2 := ptS_length l (IntKind.wrap .i64 (p + (i : Int))) bs[i]
    rw [charabancref19_Load_47.l0, cond_of (by simp; omega), cond_of (inR_nat hlt), rdD_nat bs hlt, rput_eq (by omega) (by omega), drop_at hlt, wrap_nat (by omega)]
    simp only [Option.bind_some, ldS]
    exact ih k (i + 1) _ _ _ _ (by omega) (by omega) (by omega)
theorem rload_eq {r : List Int} {n bk : Int} {l : List Sp} {p : Int} {bs : List Int} (hb : bs.length ≤ 900) (hl : l.length ≤ 1050) : charabancref19_Load_47.f 2000 r n bk l p bs = some (r, n, bk, ldS p bs 0 l) := by
  unfold charabancref19_Load_47.f
  have := rload_l0 r n bk l p bs hb bs.length 2000 0 r n bk l (by omega) (by omega) (by omega)
  erw [this]
  rfl
/-! ### words -/
def iL (l : List UInt8) : List Int := l.map fun b => (b.toNat : Int)
theorem iL_len (l : List UInt8) : (iL l).length = l.length := by simp [iL]
theorem ba_beq (a b : List UInt8) : (ba a == ba b) = decide (a = b) := by
  by_cases h : a = b
  · subst h; simp
  · rw [decide_eq_false h]
    have : ¬ ba a = ba b := fun h2 => h (by have := congrArg (fun s : ByteArray => s.data.toList) h2; simpa [ba] using this)
    simpa using this
theorem ba_tol (a b : List UInt8) : ((ByteArray.toList (ba a)) == (ByteArray.toList (ba b))) = decide (a = b) := by
  rw [ByteArray.toList_eq, ByteArray.toList_eq, ba_list, ba_list]
  by_cases h : a = b
  · subst h; simp
  · rw [decide_eq_false h]; simpa using h
/-- A line at its first space. -/
def cutS : List UInt8 → Option (List UInt8 × List UInt8)
  | [] => none
  | c :: r => if c = 32 then some ([], r) else (cutS r).map fun p => (c :: p.1, p.2)
theorem cut_idx : ∀ x : List UInt8, (Lib.indexByte x 32 = -1 ∧ cutS x = none) ∨ ∃ j : Nat, Lib.indexByte x 32 = (j : Int) ∧ j < x.length ∧ cutS x = some (x.take j, x.drop (j + 1))
  | [] => .inl ⟨rfl, rfl⟩
  | c :: l => by
    by_cases hc : c = 32
    · subst hc
      exact .inr ⟨0, by simp [Lib.indexByte], by simp, by simp [cutS]⟩
    · have hb : (c == 32) = false := by simpa using hc
      rcases cut_idx l with ⟨h1, h2⟩ | ⟨j, h1, h2, h3⟩
      · refine .inl ⟨?_, ?_⟩
        · rw [Lib.indexByte, hb, h1]; rfl
        · rw [cutS, if_neg hc, h2]; rfl
      · refine .inr ⟨j + 1, ?_, by simpa using h2, ?_⟩
        · rw [Lib.indexByte, hb, h1, if_neg (by simp), if_neg (by simp)]; omega
        · rw [cutS, if_neg hc, h3]; simp
theorem cut_none : ∀ (x w r : List UInt8), cutS x = some (w, r) → x = w ++ 32 :: r ∧ (32 : UInt8) ∉ w
  | [], w, r, h => by cases h
  | c :: x, w, r, h => by
    rw [cutS] at h
    by_cases hc : c = 32
    · rw [if_pos hc] at h
      obtain ⟨rfl, rfl⟩ := Prod.mk.inj (Option.some.inj h)
      exact ⟨by rw [hc]; rfl, by simp⟩
    · rw [if_neg hc] at h
      cases hx : cutS x with
      | none => rw [hx] at h; cases h
      | some p =>
        rw [hx] at h
        obtain ⟨rfl, rfl⟩ := Prod.mk.inj (Option.some.inj h)
        obtain ⟨e1, e2⟩ := cut_none x p.1 p.2 hx
        exact ⟨by rw [e1]; simp, by simp only [List.mem_cons, not_or]; exact ⟨fun h => hc h.symm, e2⟩⟩
theorem cut_of : ∀ (w r : List UInt8), (32 : UInt8) ∉ w → cutS (w ++ 32 :: r) = some (w, r)
  | [], r, _ => by simp [cutS]
  | c :: w, r, h => by
    simp only [List.mem_cons, not_or] at h
    rw [List.cons_append, cutS, if_neg (fun h2 => h.1 h2.symm), cut_of w r h.2]
    rfl
/-- A line begins with a word and a space, or it doesn't. -/
theorem cut_word {w : List UInt8} (hw : (32 : UInt8) ∉ w) (x : List UInt8) : (x.take (w.length + 1) = w ++ [32] ∧ cutS x = some (w, x.drop (w.length + 1))) ∨ (x.take (w.length + 1) ≠ w ++ [32] ∧ ∀ r, cutS x ≠ some (w, r)) := by
  by_cases h : x.take (w.length + 1) = w ++ [32]
  · refine .inl ⟨h, ?_⟩
    have e : x = w ++ 32 :: x.drop (w.length + 1) := by
      conv => lhs; rw [← List.take_append_drop (w.length + 1) x, h]
      simp
    conv => lhs; rw [e]
    exact cut_of w _ hw
  · refine .inr ⟨h, fun r hr => h ?_⟩
    obtain ⟨e, _⟩ := cut_none _ _ _ hr
    rw [e, show w ++ 32 :: r = (w ++ [32]) ++ r by simp, List.take_append_of_le_length (by simp), List.take_of_length_le (by simp)]
theorem begins_eq (x w : List UInt8) (hx : x.length ≤ 1900) (hw : w.length ≤ 10) : charabancref30_begins_45.f 2000 (ba x) (ba w) = some (if x.take w.length = w then (ba (x.drop w.length), true) else (ba [], false)) := by
  unfold charabancref30_begins_45.f
  simp only [Let]
  rw [ba_size, ba_size]
  by_cases h1 : x.length < w.length
  · rw [decide_eq_true (by omega), cond_t, cond_t, if_neg (fun h => by have := congrArg List.length h; rw [List.length_take] at this; omega)]
    rfl
  · rw [decide_eq_false (by omega), cond_f, cutR_of (by omega) (by omega) (by omega), cond_t, ba_cut, ba_tol, Int.toNat_natCast, cutR_of (by omega) (by omega) (by omega), cond_t, ba_cut, Int.toNat_natCast, Int.toNat_natCast, List.take_length, show Int.toNat 0 = 0 from rfl, List.drop_zero]
    by_cases h : x.take w.length = w
    · rw [decide_eq_true h, Bool.not_true, cond_f, if_pos h]
    · rw [decide_eq_false h, Bool.not_false, cond_t, if_neg h]
      rfl
/-! ### a line -/
abbrev Cfg := List Int × Int × Int × List Sp × Int
def tellR (c : Cfg) (r : List UInt8) : Option Cfg := match cutS r with
  | none => none
  | some (p, d) => match numO (iL p) 5 with
    | none => none
    | some a => match prsB (iL d) with
      | none => none
      | some b => some (c.1, c.2.1, c.2.2.1, ldS a b 0 c.2.2.2.1, c.2.2.2.2)
def tellW (c : Cfg) (w r : List UInt8) : Option Cfg :=
  if w = [98, 97, 110, 107, 115] then (fewO (iL r)).map fun n => (c.1, n, c.2.2.1, c.2.2.2.1, c.2.2.2.2)
  else if w = [98, 97, 110, 107] then (fewO (iL r)).map fun n => (c.1, c.2.1, n, c.2.2.2.1, c.2.2.2.2)
  else if w = [112, 99] then (numO (iL r) 4).map fun n => (c.1, c.2.1, c.2.2.1, c.2.2.2.1, IntKind.wrap .u16 n)
  else if w = [114, 111, 109] then (prsB (iL r)).map fun b => (c.1 ++ b, c.2.1, c.2.2.1, c.2.2.2.1, c.2.2.2.2)
  else if w = [114, 97, 109] then tellR c r
  else none
def tell (c : Cfg) (x : List UInt8) : Option Cfg := if x = [] ∨ x.head? = some 59 then some c else match cutS x with | none => none | some (w, r) => tellW c w r
/-- An answer: a config and that it is one; or anything, and that it is none. -/
def Ans (o : Option Cfg) (x : Option (List Int × Int × Int × List Sp × Int × Bool)) : Prop := (∃ c, o = some c ∧ x = some (c.1, c.2.1, c.2.2.1, c.2.2.2.1, c.2.2.2.2, true)) ∨ (o = none ∧ ∃ c : Cfg, x = some (c.1, c.2.1, c.2.2.1, c.2.2.2.1, c.2.2.2.2, false))
theorem rd59 (x : List UInt8) (h : 0 < x.length) : (btD (ba x) 0 == 59) = decide (x.head? = some 59) := by
  cases x with
  | nil => simp at h
  | cons c r =>
    have := ba_bt (c :: r) (i := 0) h
    rw [show ((0 : Nat) : Int) = 0 from rfl] at this
    rw [this]
    by_cases hc : c = 59
    · subst hc; rfl
    · rw [decide_eq_false (by simpa using hc)]
      simp only [List.getElem_cons_zero, beq_eq_false_iff_ne, ne_eq]
      intro h2
      exact hc (UInt8.toNat_inj.1 (by show c.toNat = 59; omega))
theorem spc (x : List UInt8) {i : Nat} (h : i < x.length) : (btD (ba x) (i : Int) != 32) = !decide (x[i] = 32) := by
  rw [ba_bt x h]
  by_cases hc : x[i] = 32
  · rw [hc]; rfl
  · rw [decide_eq_false hc]
    simp only [Bool.not_false, bne_iff_ne, ne_eq]
    intro h2
    exact hc (UInt8.toNat_inj.1 (by show x[i].toNat = 32; omega))
theorem num32 {l : List UInt8} {m : Nat} (h : (32 : UInt8) ∈ l) : numO (iL l) m = none := by
  unfold numO
  split
  · have key : ∀ (l : List UInt8) (n : Int), (32 : UInt8) ∈ l → numI n (iL l) = none := by
      intro l
      induction l with
      | nil => intro n h; cases h
      | cons c r ih =>
        intro n h
        rw [iL, List.map_cons, numI]
        rcases List.mem_cons.1 h with rfl | h
        · rfl
        · split
          · rfl
          · exact ih _ h
    exact key l 0 h
  · rfl
/-- The reference's row of RAM. -/
theorem tellR_at (c : Cfg) (w : List UInt8) : tellR c w = if h : 5 < w.length then (if w[5] = 32 then (match numO (iL (w.take 5)) 5 with
    | none => none
    | some a => match prsB (iL (w.drop 6)) with
      | none => none
      | some b => some (c.1, c.2.1, c.2.2.1, ldS a b 0 c.2.2.2.1, c.2.2.2.2)) else none) else none := by
  unfold tellR
  cases hc : cutS w with
  | none =>
    dsimp only
    split
    · split
      · next h h5 =>
        exfalso
        rcases cut_idx w with ⟨h1, h2⟩ | ⟨j, h1, h2, h3⟩
        · have hm : (32 : UInt8) ∈ w := h5 ▸ List.getElem_mem h
          obtain ⟨s, t, rfl⟩ := List.append_of_mem hm
          clear h1 h2 h5 h
          have : ∀ s : List UInt8, cutS (s ++ 32 :: t) ≠ none := by
            intro s
            induction s with
            | nil => simp [cutS]
            | cons a s ih =>
              rw [List.cons_append, cutS]
              split
              · simp
              · simpa using ih
          exact this s hc
        · rw [h3] at hc; cases hc
      · rfl
    · rfl
  | some p =>
    obtain ⟨p, d⟩ := p
    obtain ⟨e, hn⟩ := cut_none _ _ _ hc
    dsimp only
    by_cases h5 : p.length = 5
    · have hl : 5 < w.length := by rw [e]; simp; omega
      have e1 : w[5] = 32 := by
        simp only [e]
        rw [List.getElem_append_right (by omega)]
        simp [h5]
      have e2 : w.take 5 = p := by rw [e, ← h5]; simp
      have e3 : w.drop 6 = d := by rw [e, show p ++ 32 :: d = (p ++ [32]) ++ d by simp, List.drop_left' (by simp; omega)]
      rw [dif_pos hl, if_pos e1, e2, e3]
    · have hz : numO (iL p) 5 = none := by unfold numO; rw [if_neg (by rw [iL_len]; exact h5)]
      rw [hz]
      dsimp only
      split
      · next hl =>
        split
        · next h32 =>
          have : numO (iL (w.take 5)) 5 = none := by
            by_cases hlt : p.length < 5
            · refine num32 ?_
              rw [e, List.take_append]
              refine List.mem_append_right _ ?_
              obtain ⟨m, hm⟩ : ∃ m, 5 - p.length = m + 1 := ⟨4 - p.length, by omega⟩
              rw [hm]
              simp
            · exfalso
              apply hn
              have : w[5] = p[5]'(by omega) := by
                simp only [e]
                rw [List.getElem_append_left (by omega)]
              rw [← h32, this]
              exact List.getElem_mem _
          rw [this]
        · rfl
      · rfl
theorem refTold {c : Cfg} {x : List UInt8} (hx : x.length ≤ 1500) (hr : c.1.length ≤ 3000) (hm : c.2.2.2.1.length ≤ 1050) : Ans (tell c x) (charabancref30_told_22.f 2000 c.1 c.2.1 c.2.2.1 c.2.2.2.1 c.2.2.2.2 (ba x)) := by
  obtain ⟨rom, n, bk, ram, pc⟩ := c
  simp only at hr hm
  unfold charabancref30_told_22.f tell
  simp only [Let]
  rw [show (⟨#[]⟩ : ByteArray) = ba [] from rfl, ba_tol, ba_size]
  by_cases h0 : x = []
  · rw [decide_eq_true h0, cond_t, cond_t, if_pos (.inl h0)]
    exact .inl ⟨_, rfl, rfl⟩
  · have hlen : 0 < x.length := List.length_pos_iff.2 h0
    rw [decide_eq_false h0, cond_f, show inR 0 x.length = true from inR_nat (i := 0) hlen, cond_t, rd59 x hlen]
    by_cases h59 : x.head? = some 59
    · rw [decide_eq_true h59, cond_t, if_pos (.inr h59)]
      exact .inl ⟨_, rfl, rfl⟩
    · rw [decide_eq_false h59, cond_f, if_neg (fun h => h.elim h0 h59)]
      have b1 := begins_eq x [98, 97, 110, 107, 115, 32] (by omega) (by simp)
      have b2 := begins_eq x [98, 97, 110, 107, 32] (by omega) (by simp)
      have b3 := begins_eq x [112, 99, 32] (by omega) (by simp)
      have b4 := begins_eq x [114, 111, 109, 32] (by omega) (by simp)
      have b5 := begins_eq x [114, 97, 109, 32] (by omega) (by simp)
      have w1 := cut_word (w := [98, 97, 110, 107, 115]) (by decide) x
      have w2 := cut_word (w := [98, 97, 110, 107]) (by decide) x
      have w3 := cut_word (w := [112, 99]) (by decide) x
      have w4 := cut_word (w := [114, 111, 109]) (by decide) x
      have w5 := cut_word (w := [114, 97, 109]) (by decide) x
      simp only [List.length_cons, List.length_nil, List.cons_append, List.nil_append, Nat.zero_add, Nat.reduceAdd] at b1 b2 b3 b4 b5 w1 w2 w3 w4 w5
      rw [show (⟨#[98, 97, 110, 107, 115, 32]⟩ : ByteArray) = ba [98, 97, 110, 107, 115, 32] from rfl, b1, Option.bind_some, show (⟨#[98, 97, 110, 107, 32]⟩ : ByteArray) = ba [98, 97, 110, 107, 32] from rfl, b2, Option.bind_some, show (⟨#[112, 99, 32]⟩ : ByteArray) = ba [112, 99, 32] from rfl, b3, Option.bind_some,
        show (⟨#[114, 111, 109, 32]⟩ : ByteArray) = ba [114, 111, 109, 32] from rfl, b4, Option.bind_some, show (⟨#[114, 97, 109, 32]⟩ : ByteArray) = ba [114, 97, 109, 32] from rfl, b5, Option.bind_some]
      clear b1 b2 b3 b4 b5
      rcases w1 with ⟨t1, c1⟩ | ⟨t1, c1⟩
      · rw [if_pos t1, c1]
        dsimp only
        rw [cond_t, refFew, Option.bind_some, tellW, if_pos rfl]
        show Ans ((fewO (bytesI (ba (x.drop 6)))).map _) _
        cases fewO (bytesI (ba (x.drop 6))) with
        | none => exact .inr ⟨rfl, (rom, 0, bk, ram, pc), rfl⟩
        | some v => exact .inl ⟨_, rfl, rfl⟩
      · rw [if_neg t1]
        dsimp only
        rw [cond_f]
        rcases w2 with ⟨t2, c2⟩ | ⟨t2, c2⟩
        · rw [if_pos t2, c2]
          dsimp only
          rw [cond_t, refFew, Option.bind_some, tellW, if_neg (by decide), if_pos rfl]
          show Ans ((fewO (bytesI (ba (x.drop 5)))).map _) _
          cases fewO (bytesI (ba (x.drop 5))) with
          | none => exact .inr ⟨rfl, (rom, n, 0, ram, pc), rfl⟩
          | some v => exact .inl ⟨_, rfl, rfl⟩
        · rw [if_neg t2]
          dsimp only
          rw [cond_f]
          rcases w3 with ⟨t3, c3⟩ | ⟨t3, c3⟩
          · rw [if_pos t3, c3]
            dsimp only
            rw [cond_t, show (4 : Int) = ((4 : Nat) : Int) from rfl, refNum (by omega), Option.bind_some, tellW, if_neg (by decide), if_neg (by decide), if_pos rfl]
            show Ans ((numO (bytesI (ba (x.drop 3))) 4).map _) _
            cases numO (bytesI (ba (x.drop 3))) 4 with
            | none => exact .inr ⟨rfl, (rom, n, bk, ram, IntKind.wrap .u16 0), rfl⟩
            | some v => exact .inl ⟨_, rfl, rfl⟩
          · rw [if_neg t3]
            dsimp only
            rw [cond_f]
            rcases w4 with ⟨t4, c4⟩ | ⟨t4, c4⟩
            · have hbl := bytO_len (bytesI (ba (x.drop 4)))
              rw [bytesI_len, ba_size, List.length_drop] at hbl
              rw [if_pos t4, c4]
              dsimp only
              rw [cond_t, refByt (by rw [ba_size, List.length_drop]; omega), Option.bind_some, mayBe_of (by simp; omega) (by simp; omega), cond_t, mayBe_of (by simp; omega) (by simp; omega), cond_t, tellW, if_neg (by decide), if_neg (by decide), if_neg (by decide), if_pos rfl]
              show Ans ((prsB (bytesI (ba (x.drop 4)))).map _) _
              unfold bytO
              cases prsB (bytesI (ba (x.drop 4))) with
              | none => exact .inr ⟨rfl, ([] ++ rom ++ [], n, bk, ram, pc), rfl⟩
              | some v => exact .inl ⟨_, rfl, by simp⟩
            · rw [if_neg t4]
              dsimp only
              rw [cond_f]
              rcases w5 with ⟨t5, c5⟩ | ⟨t5, c5⟩
              · rw [if_pos t5, c5]
                dsimp only
                rw [cond_t, tellW, if_neg (by decide), if_neg (by decide), if_neg (by decide), if_neg (by decide), if_pos rfl, tellR_at, ba_size]
                have hq : (x.drop 4).length ≤ 1500 := by rw [List.length_drop]; omega
                generalize x.drop 4 = w at hq
                by_cases h6 : 5 < w.length
                · rw [decide_eq_false (by omega), cond_f, show inR 5 w.length = true from inR_nat (i := 5) h6, cond_t, show (5 : Int) = ((5 : Nat) : Int) from rfl, spc w h6, dif_pos h6]
                  by_cases h32 : w[5] = 32
                  · have e2 : strCut (ba w) 0 ((5 : Nat) : Int) = ba (w.take 5) := by rw [ba_cut]; rfl
                    have e3 : strCut (ba w) 6 (w.length : Int) = ba (w.drop 6) := by rw [ba_cut, Int.toNat_natCast, List.take_length]; rfl
                    have hbl := bytO_len (bytesI (ba (w.drop 6)))
                    rw [bytesI_len, ba_size, List.length_drop] at hbl
                    rw [decide_eq_true h32, Bool.not_true, cond_f, if_pos h32, cutR_of (by omega) (by omega) (by omega), cond_t, e2, refNum (by omega), Option.bind_some, cutR_of (by omega) (by omega) (by omega), cond_t, e3, refByt (by rw [ba_size, List.length_drop]; omega), Option.bind_some,
                      rload_eq (by omega) hm, Option.bind_some]
                    show Ans (match numO (bytesI (ba (w.take 5))) 5 with | none => none | some a => match prsB (bytesI (ba (w.drop 6))) with | none => none | some b => some (rom, n, bk, ldS a b 0 ram, pc)) _
                    unfold bytO
                    cases numO (bytesI (ba (w.take 5))) 5 with
                    | none =>
                      dsimp only
                      exact .inr ⟨rfl, (rom, n, bk, _, pc), rfl⟩
                    | some a =>
                      dsimp only
                      cases prsB (bytesI (ba (w.drop 6))) with
                      | none => exact .inr ⟨rfl, (rom, n, bk, _, pc), rfl⟩
                      | some b => exact .inl ⟨_, rfl, rfl⟩
                  · rw [decide_eq_false h32, Bool.not_false, cond_t, if_neg h32]
                    exact .inr ⟨rfl, (rom, n, bk, ram, pc), rfl⟩
                · rw [decide_eq_true (by omega), cond_t, cond_t, dif_neg h6]
                  exact .inr ⟨rfl, (rom, n, bk, ram, pc), rfl⟩
              · rw [if_neg t5]
                dsimp only
                rw [cond_f]
                have hn : (match cutS x with | none => none | some (w, r) => tellW (rom, n, bk, ram, pc) w r) = none := by
                  cases hc : cutS x with
                  | none => rfl
                  | some p =>
                    obtain ⟨w, r⟩ := p
                    dsimp only
                    rw [tellW, if_neg (fun h => c1 r (by rw [hc, h])), if_neg (fun h => c2 r (by rw [hc, h])), if_neg (fun h => c3 r (by rw [hc, h])), if_neg (fun h => c4 r (by rw [hc, h])), if_neg (fun h => c5 r (by rw [hc, h]))]
                rw [hn]
                exact .inr ⟨rfl, (rom, n, bk, ram, pc), rfl⟩
end Go.Proofs.YtbcepghanbkncaaDoor.Im
