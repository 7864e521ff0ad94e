/- What a text is read as: the program's and the reference's are the same. -/
import Derived.Test.YtbcepghanbkncaaDoorImLibB
set_option linter.unusedVariables false
set_option linter.unusedSimpArgs false
namespace Go.Proofs.YtbcepghanbkncaaDoor.Im
open Go.RowKit Go.Eng
def spl : List UInt8 → List (List UInt8)
  | [] => [[]]
  | c :: r => if c = 10 then [] :: spl r else (match spl r with | [] => [[c]] | h :: t => (c :: h) :: t)
def splw (w r : List UInt8) : List (List UInt8) := match spl r with | [] => [w] | h :: t => (w ++ h) :: t
theorem spl_ne : ∀ r, spl r ≠ []
  | [] => by simp [spl]
  | c :: r => by
    rw [spl]
    split
    · simp
    · split <;> simp
theorem splw_nil (w : List UInt8) : splw w [] = [w] := by simp [splw, spl]
theorem splw_nl (w r : List UInt8) : splw w (10 :: r) = w :: spl r := by simp [splw, spl]
theorem splw_c {c : UInt8} (h : c ≠ 10) (w r : List UInt8) : splw w (c :: r) = splw (w ++ [c]) r := by
  unfold splw
  rw [spl, if_neg h]
  cases hr : spl r with
  | nil => exact absurd hr (spl_ne r)
  | cons x t => simp
theorem splw_e (r : List UInt8) : splw [] r = spl r := by
  unfold splw
  cases hr : spl r with
  | nil => exact absurd hr (spl_ne r)
  | cons x t => rfl
theorem spl_idx : ∀ (l : List UInt8), (Lib.indexByte l 10 = -1 ∧ spl l = [l] ∧ l.count 10 = 0) ∨ ∃ j : Nat, Lib.indexByte l 10 = (j : Int) ∧ j < l.length ∧ spl l = l.take j :: spl (l.drop (j + 1)) ∧ l.count 10 = (l.drop (j + 1)).count 10 + 1
  | [] => .inl ⟨rfl, rfl, rfl⟩
  | c :: l => by
    by_cases hc : c = 10
    · subst hc
      exact .inr ⟨0, by simp [Lib.indexByte], by simp, by simp [spl], by simp⟩
    · have hb : (c == 10) = false := by simpa using hc
      rcases spl_idx l with ⟨h1, h2, h3⟩ | ⟨j, h1, h2, h3, h4⟩
      · refine .inl ⟨?_, ?_, ?_⟩
        · rw [Lib.indexByte, hb, h1]; rfl
        · rw [spl, if_neg hc, h2]
        · rw [List.count_cons, h3, hb]; rfl
      · refine .inr ⟨j + 1, ?_, by simpa using h2, ?_, ?_⟩
        · rw [Lib.indexByte, hb, h1, if_neg (by simp), if_neg (by simp)]; omega
        · rw [spl, if_neg hc, h3]; rfl
        · rw [List.count_cons, h4, hb]; simp
theorem spl_len : ∀ (l : List UInt8), (spl l).length = l.count 10 + 1
  | [] => rfl
  | c :: l => by
    have ih := spl_len l
    rw [spl]
    split
    · next hc => subst hc; simp [ih]
    · next hc =>
      rw [List.count_cons, show (c == 10) = false by simpa using hc]
      cases hr : spl l with
      | nil => exact absurd hr (spl_ne l)
      | cons x t => rw [hr] at ih; simpa using ih
theorem spl_sum : ∀ (l : List UInt8), ((spl l).map List.length).sum ≤ l.length
  | [] => by simp [spl]
  | c :: l => by
    have ih := spl_sum l
    rw [spl]
    split
    · simp; omega
    · cases hr : spl l with
      | nil => exact absurd hr (spl_ne l)
      | cons x t => rw [hr] at ih; simp at ih ⊢; omega
theorem idx10 (l : List UInt8) : strings_Index_61.f 2000 (ba l) (⟨#[10]⟩ : ByteArray) = some (Lib.indexByte l 10) := rfl
theorem cnt10 (l : List UInt8) : strings_Count_60.f 2000 (ba l) (⟨#[10]⟩ : ByteArray) = some ((l.count 10 : Nat) : Int) := rfl
theorem goSplit {p0 : ByteArray} {n : Nat} (hn : n ≤ 1900) : ∀ (k i : Nat) (r : List UInt8) (rows : List ByteArray), rows.length = n + 1 → r.count 10 + i = n → n - i < k → r.length ≤ 100000 →
    ∃ r' rows' i', image_Read_7.l0 2000 p0 (n : Int) k (ba r) rows (i : Int) = some (ba r', rows', ((i' : Nat) : Int)) ∧ i' = n ∧ rows'.length = n + 1 ∧ rows'.take i' ++ [ba r'] = rows.take i ++ (spl r).map ba
  | 0, i, r, rows, _, _, hk, _ => by omega
  | k + 1, i, r, rows, hl, hc, hk, hr => by
    rw [image_Read_7.l0.eq_2]
    rcases spl_idx r with ⟨h1, h2, h3⟩ | ⟨j, h1, h2, h3, h4⟩
    · refine ⟨r, rows, i, ?_, by omega, hl, by rw [h2]; rfl⟩
      rw [decide_eq_false (by omega), cond_f]
    · rw [decide_eq_true (by omega), cond_t, idx10, Option.bind_some, h1, decide_eq_false (by omega), cond_f, show ((⟨#[10]⟩ : ByteArray).size : Int) = 1 from rfl, wrap_i64 (x := (j : Int) + 0) (by omega) (by omega), wrap_i64 (x := (j : Int) + 1) (by omega) (by omega), ba_size,
        cutR_of (by omega) (by omega) (by omega), cond_t, inR_nat (by omega), cond_t, cutR_of (by omega) (by omega) (by omega), cond_t, ba_cut, ba_cut, show ((j : Int) + 0).toNat = j by omega, show ((j : Int) + 1).toNat = j + 1 by omega, Int.toNat_natCast, List.take_length, wrap_nat (by omega)]
      obtain ⟨r', rows', i', g1, g2, g3, g4⟩ := goSplit hn k (i + 1) (r.drop (j + 1)) (stD rows (i : Int) (ba ((r.take j).drop (Int.toNat 0)))) (by rw [stD_length]; exact hl) (by omega) (by omega) (by rw [List.length_drop]; omega)
      refine ⟨r', rows', i', g1, g2, g3, ?_⟩
      rw [g4, h3, List.map_cons]
      unfold stD
      rw [Int.toNat_natCast, Int.toNat_zero, List.drop_zero, List.take_add_one, List.take_set_of_le (by omega), List.getElem?_set_self (by omega)]
      simp
/-! ### lines, one after the other -/
def rdT : List (List UInt8) → Int → Cfg → Lp Int Cfg
  | [], _, c => .go c
  | x :: r, i, c => match tell c x with | none => .ret (i + 1) | some c' => rdT r (i + 1) c'
theorem tell_len {c c' : Cfg} {x : List UInt8} (h : tell c x = some c') : c'.1.length ≤ c.1.length + x.length ∧ 2 * c'.2.2.2.1.length ≤ 2 * c.2.2.2.1.length + x.length := by
  unfold tell at h
  split at h
  · obtain rfl := Option.some.inj h; omega
  · cases hc : cutS x with
    | none => rw [hc] at h; cases h
    | some p =>
      obtain ⟨w, r⟩ := p
      rw [hc] at h
      dsimp only at h
      have hr : r.length ≤ x.length := by rw [(cut_none _ _ _ hc).1]; simp; omega
      unfold tellW at h
      have hB : ∀ {b : List Int} {d : List UInt8}, prsB (iL d) = some b → 2 * b.length ≤ d.length := fun {b d} hb => by
        have := (prsB_len _ _ (Nat.le_refl _) _ hb).1
        rw [iL_len] at this
        omega
      split at h
      · cases hq : fewO (iL r) with
        | none => rw [hq] at h; cases h
        | some v => rw [hq] at h; obtain rfl := Option.some.inj h; dsimp only; omega
      · split at h
        · cases hq : fewO (iL r) with
          | none => rw [hq] at h; cases h
          | some v => rw [hq] at h; obtain rfl := Option.some.inj h; dsimp only; omega
        · split at h
          · cases hq : numO (iL r) 4 with
            | none => rw [hq] at h; cases h
            | some v => rw [hq] at h; obtain rfl := Option.some.inj h; dsimp only; omega
          · split at h
            · cases hq : prsB (iL r) with
              | none => rw [hq] at h; cases h
              | some v =>
                have := hB hq
                rw [hq] at h; obtain rfl := Option.some.inj h
                dsimp only
                rw [List.length_append]
                omega
            · split at h
              · unfold tellR at h
                cases hd : cutS r with
                | none => rw [hd] at h; cases h
                | some q =>
                  obtain ⟨p, d⟩ := q
                  have hdl : d.length ≤ r.length := by rw [(cut_none _ _ _ hd).1]; simp; omega
                  rw [hd] at h
                  dsimp only at h
                  cases ha : numO (iL p) 5 with
                  | none => rw [ha] at h; cases h
                  | some a =>
                    rw [ha] at h
                    dsimp only at h
                    cases hb : prsB (iL d) with
                    | none => rw [hb] at h; cases h
                    | some b =>
                      have h1 := hB hb
                      have h2 := ldS_length a b 0 c.2.2.2.1
                      rw [hb] at h; obtain rfl := Option.some.inj h
                      dsimp only
                      omega
              · cases h
/-- The program's line. -/
theorem sp_idx (l : List UInt8) : stringslite_Index_76.f 2000 (ba l) (⟨#[32]⟩ : ByteArray) = some (Lib.indexByte l 32) := rfl
theorem hp59 (l : List UInt8) : strings_HasPrefix_36.f 2000 (ba l) (⟨#[59]⟩ : ByteArray) = some (decide (l.head? = some 59)) := by
  show some (Lib.hasPrefix l [59]) = _
  congr 1
  cases l with
  | nil => rfl
  | cons c l =>
    by_cases h : c = 59
    · subst h; simp [Lib.hasPrefix]
    · rw [decide_eq_false (by simpa using h)]
      simpa [Lib.hasPrefix, List.isPrefixOf] using fun h2 => h h2.symm
/-- What a row of RAM tells, cut at its space. -/
theorem goRam {c : Cfg} {r : List UInt8} (hx : r.length ≤ 1500) (hm : c.2.2.2.1.length ≤ 1050) {ρ : Type} (J : Bool × Int × Int × List Sp → Option ρ) :
    ∃ o, Ans (tellR c r) o ∧ (Let (fun (yj345 : Bool × Int × Int × (List (Int × Int))) => J yj345)
      (fun j345 => Let (fun (yj271 : ByteArray × ByteArray × Bool) => (image_number_24.f 2000 yj271.1 5).bind fun yt278 => (image_Bytes_9.f 2000 yj271.2.1).bind fun yt284 => Let (fun (t292 : Bool) => cond t292 ((banks_Load_44.f 2000 c.1 c.2.1 c.2.2.1 c.2.2.2.1 yt278.1 yt284.1).bind fun yt312 => cond yj271.2.2 (cond yt278.2 (j345 (yt284.2, yt312.2.1, yt312.2.2.1, yt312.2.2.2)) (j345 (false, yt312.2.1, yt312.2.2.1, yt312.2.2.2))) (j345 (false, yt312.2.1, yt312.2.2.1, yt312.2.2.2))) (cond yj271.2.2 (cond yt278.2 (j345 (yt284.2, c.2.1, c.2.2.1, c.2.2.2.1)) (j345 (false, c.2.1, c.2.2.1, c.2.2.2.1))) (j345 (false, c.2.1, c.2.2.1, c.2.2.2.1)))) (fun j295 => cond yj271.2.2 (cond yt278.2 (j295 yt284.2) (j295 false)) (j295 false))) (fun j271 => (stringslite_Index_76.f 2000 (ba r) (⟨#[32]⟩ : ByteArray)).bind fun t255 => cond (decide (t255 ≥ 0)) (cond (cutR 0 t255 (ba r).size) (cond (cutR (IntKind.wrap .i64 (t255 + ((⟨#[32]⟩ : ByteArray).size : Int))) ((ba r).size : Int) (ba r).size) (j271 ((strCut (ba r) 0 t255), (strCut (ba r) (IntKind.wrap .i64 (t255 + ((⟨#[32]⟩ : ByteArray).size : Int))) ((ba r).size : Int)), true)) none) none) (j271 ((ba r), (⟨#[]⟩ : ByteArray), false)))))
      = o.bind fun y => J (y.2.2.2.2.2, y.2.1, y.2.2.1, y.2.2.2.1) := by
  obtain ⟨rom, n, bk, ram, pc⟩ := c
  simp only at hm
  simp only [Let]
  rw [sp_idx, Option.bind_some]
  unfold tellR
  rcases cut_idx r with ⟨h1, h2⟩ | ⟨j, h1, h2, h3⟩
  · obtain ⟨v, b, hv⟩ : ∃ v b, image_number_24.f 2000 (ba r) 5 = some (v, b) := by
      rcases goNum (p0 := ba r) (many := 5) (by omega) (by rw [ba_size]; omega) with ⟨v, _, h⟩ | ⟨_, v, h⟩
      · exact ⟨v, true, h⟩
      · exact ⟨v, false, h⟩
    rw [h1, decide_eq_false (by omega), cond_f, h2, hv, Option.bind_some, show (⟨#[]⟩ : ByteArray) = ba [] from rfl, goByt (by rw [ba_size]; simp), Option.bind_some]
    exact ⟨some (rom, n, bk, ram, pc, false), .inr ⟨rfl, (rom, n, bk, ram, pc), rfl⟩, rfl⟩
  · have e1 : strCut (ba r) 0 (j : Int) = ba (r.take j) := by rw [ba_cut]; rfl
    have e2 : strCut (ba r) ((j : Int) + 1) (r.length : Int) = ba (r.drop (j + 1)) := by rw [ba_cut, Int.toNat_natCast, List.take_length]; rfl
    rw [h1, decide_eq_true (by omega), cond_t, ba_size, cutR_of (by omega) (by omega) (by omega), cond_t, show ((⟨#[32]⟩ : ByteArray).size : Int) = 1 from rfl, wrap_i64 (x := (j : Int) + 1) (by omega) (by omega), cutR_of (by omega) (by omega) (by omega), cond_t, e1, e2, h3]
    dsimp only
    have hbl := bytO_len (bytesI (ba (r.drop (j + 1))))
    rw [bytesI_len, ba_size, List.length_drop] at hbl
    rw [goByt (by rw [ba_size, List.length_drop]; omega), show (5 : Int) = ((5 : Nat) : Int) from rfl]
    rcases goNum (p0 := ba (r.take j)) (many := 5) (by omega) (by rw [ba_size, List.length_take]; omega) with ⟨v, hv, h⟩ | ⟨hv, v, h⟩
    · rw [h, Option.bind_some, Option.bind_some, load_eq (by omega) hm, Option.bind_some]
      show ∃ o, Ans (match numO (bytesI (ba (r.take j))) 5 with | none => none | some a => match prsB (bytesI (ba (r.drop (j + 1)))) with | none => none | some b => some (rom, n, bk, ldS a b 0 ram, pc)) o ∧ _
      rw [hv]
      dsimp only
      unfold bytO
      cases prsB (bytesI (ba (r.drop (j + 1)))) with
      | none => exact ⟨some (rom, n, bk, ram, pc, false), .inr ⟨rfl, (rom, n, bk, ram, pc), rfl⟩, rfl⟩
      | some b => exact ⟨some (rom, n, bk, ldS v b 0 ram, pc, true), .inl ⟨_, rfl, rfl⟩, rfl⟩
    · rw [h, Option.bind_some, Option.bind_some]
      show ∃ o, Ans (match numO (bytesI (ba (r.take j))) 5 with | none => none | some a => match prsB (bytesI (ba (r.drop (j + 1)))) with | none => none | some b => some (rom, n, bk, ldS a b 0 ram, pc)) o ∧ _
      rw [hv]
      exact ⟨some (rom, n, bk, ram, pc, false), .inr ⟨rfl, (rom, n, bk, ram, pc), rfl⟩, rfl⟩
end Go.Proofs.YtbcepghanbkncaaDoor.Im
