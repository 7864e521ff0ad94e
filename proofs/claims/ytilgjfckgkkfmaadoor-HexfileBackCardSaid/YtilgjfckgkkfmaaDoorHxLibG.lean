/- What records are read as. -/
import Derived.Test.YtilgjfckgkkfmaaDoorHxLibF
set_option linter.unusedVariables false
set_option linter.unusedSimpArgs false
namespace Go.Proofs.YtilgjfckgkkfmaaDoor.Hx
open Go.RowKit Go.Eng
def spl : List UInt8 → List (List UInt8)
  | [] => [[]]
  | c :: r => if c = 10 then [] :: spl r else (match spl r with | [] => [[c]] | h :: t => (c :: h) :: t)
def splw (w r : List UInt8) : List (List UInt8) := match spl r with | [] => [w] | h :: t => (w ++ h) :: t
theorem spl_ne : ∀ r, spl r ≠ []
  | [] => by simp [spl]
  | c :: r => by
    rw [spl]
    split
    · simp
    · split <;> simp
theorem splw_nil (w : List UInt8) : splw w [] = [w] := by simp [splw, spl]
theorem splw_nl (w r : List UInt8) : splw w (10 :: r) = w :: spl r := by simp [splw, spl]
theorem splw_c {c : UInt8} (h : c ≠ 10) (w r : List UInt8) : splw w (c :: r) = splw (w ++ [c]) r := by
  unfold splw
  rw [spl, if_neg h]
  cases hr : spl r with
  | nil => exact absurd hr (spl_ne r)
  | cons x t => simp
theorem splw_e (r : List UInt8) : splw [] r = spl r := by
  unfold splw
  cases hr : spl r with
  | nil => exact absurd hr (spl_ne r)
  | cons x t => rfl
def pI (x : List UInt8) : Int × Int × List Int × Int := parseI (x.map fun b => (b.toNat : Int))
def dl (x : List UInt8) : Nat := (pI x).2.2.1.length
def rdL : List (List UInt8) → Int → List Cel → Bool → Lp (Int × Int) (List Cel × Bool)
  | [], i, m, e => .go (m, e)
  | x :: r, i, m, e => if x = [] then rdL r (i + 1) m e
    else if (pI x).2.2.2 ≠ 0 then .ret ((pI x).2.2.2, i + 1) else if 1 < (pI x).1 then .ret (330, i + 1) else if e = true then .ret (332, i + 1)
    else if (pI x).1 = 1 then rdL r (i + 1) m true else rdL r (i + 1) (memC (m ++ cellsFrom (pI x).2.1 (pI x).2.2.1)) e
def readL (l : List UInt8) : List Cel × Int × Int := Lp.elim (rdL (spl l) 0 [] false) (fun x => ([], x.1, x.2)) (fun x => if x.2 = true then (x.1, 0, 0) else ([], 332, ((spl l).length : Int)))
theorem parseI_ok {l : List Int} (hl : ∀ x ∈ l, byt x) : byt (parseI l).1 ∧ (0 ≤ (parseI l).2.1 ∧ (parseI l).2.1 < 65536) ∧ (∀ x ∈ (parseI l).2.2.1, byt x) ∧ 2 * (parseI l).2.2.1.length ≤ l.length := by
  have hno : byt noR.1 ∧ (0 ≤ noR.2.1 ∧ noR.2.1 < 65536) ∧ (∀ x ∈ noR.2.2.1, byt x) ∧ 2 * noR.2.2.1.length ≤ l.length := by
    unfold noR byt; simp
  unfold parseI
  split
  · split
    · next b hb =>
      have h1 := prsI_byt _ _ _ hb (by simp)
      have h2 := prsI_len _ _ _ hb
      simp only [List.length_nil, List.length_tail] at h2
      unfold parseB
      split
      · exact hno
      · next h5 =>
        have h5 : 5 ≤ b.length := by omega
        split
        · unfold byt; simp
        · have g1 := rdD_byt h1 (i := 1) (by omega)
          have g2 := rdD_byt h1 (i := 2) (by omega)
          have g3 := rdD_byt h1 (i := 3) (by omega)
          unfold byt at g1 g2
          rw [show ((1 : Nat) : Int) = 1 from rfl] at g1
          rw [show ((2 : Nat) : Int) = 2 from rfl] at g2
          refine ⟨g3, ⟨by show 0 ≤ 256 * rdD b 1 + rdD b 2; omega, by show 256 * rdD b 1 + rdD b 2 < 65536; omega⟩, cutL_byt h1 _ _, ?_⟩
          simp only [cutL, List.length_drop, List.length_take]
          omega
    · exact hno
  · exact hno
theorem nat_byt (x : List UInt8) : ∀ y ∈ x.map (fun b => (b.toNat : Int)), byt y := bytesI_byt (ba x)
theorem pI_ok (x : List UInt8) : byt (pI x).1 ∧ (0 ≤ (pI x).2.1 ∧ (pI x).2.1 < 65536) ∧ (∀ y ∈ (pI x).2.2.1, byt y) ∧ 2 * dl x ≤ x.length := by
  have := parseI_ok (nat_byt x)
  rw [List.length_map] at this
  exact this
theorem goP {x : List UInt8} (h : x.length ≤ 800) : hexfile_Parse_14.f 1000 (ba x) = some (pI x) := by rw [goParse (by rw [ba_size]; exact h), bytesI_ba]; rfl
theorem refP {x : List UInt8} (h : x.length ≤ 800) : charabancref33_Parse_15.f 1000 (ba x) = some (pI x) := by rw [refParse (by rw [ba_size]; exact h), bytesI_ba]; rfl
theorem eq_nil (x : List UInt8) : ((ByteArray.toList (ba x)) == (ByteArray.toList (⟨#[]⟩ : ByteArray))) = decide (x = []) := by
  rw [show (⟨#[]⟩ : ByteArray) = ba [] from rfl, ByteArray.toList_eq, ByteArray.toList_eq, ba_list, ba_list]
  cases x <;> rfl
/-- How much the lines hold. -/
def dls (r : List (List UInt8)) : Nat := (r.map dl).sum
theorem dls_cons (x : List UInt8) (r : List (List UInt8)) : dls (x :: r) = dl x + dls r := by simp [dls]
theorem load_ok {m : List Cel} {x : List UInt8} (hm : okC m) : okC (memC (m ++ cellsFrom (pI x).2.1 (pI x).2.2.1)) := fun p hp => okC_app hm (cellsFrom_ok (pI_ok x).2.1 _) p (memC_mem hp)
theorem load_len (m : List Cel) (x : List UInt8) : (memC (m ++ cellsFrom (pI x).2.1 (pI x).2.2.1)).length ≤ m.length + dl x := by
  have := memC_len (m ++ cellsFrom (pI x).2.1 (pI x).2.2.1)
  rw [List.length_append, cellsFrom_len] at this
  exact this
theorem goRd {p0 : ByteArray} {L : List (List UInt8)} (hL : L.length ≤ 900) (h8 : ∀ x ∈ L, x.length ≤ 800) : ∀ (k i : Nat) (m : List Cel) (e : Bool), i ≤ L.length → L.length - i < k → m.length + dls (L.drop i) < 400 →
    hexfile_Read_19.l1 1000 p0 (L.map ba) (L.length : Int) k m e (i : Int) = some (rdL (L.drop i) (i : Int) m e)
  | 0, i, m, e, _, hk, _ => by omega
  | k + 1, i, m, e, hi, hk, hd => by
    rw [hexfile_Read_19.l1.eq_2]
    by_cases h0 : i < L.length
    · have hx8 := h8 _ (List.getElem_mem h0)
      rw [drop_at h0, dls_cons] at hd
      rw [decide_eq_true (by omega), cond_t, inR_nat (by rw [List.length_map]; exact h0), cond_t, rdD_nat _ (by rw [List.length_map]; exact h0), List.getElem_map, eq_nil, drop_at h0, rdL, goP hx8, wrap_nat (by omega), show (i : Int) + 1 = ((i + 1 : Nat) : Int) by omega]
      by_cases hn : L[i] = []
      · rw [decide_eq_true hn, cond_t, if_pos hn]
        exact goRd hL h8 k (i + 1) m e (by omega) (by omega) (by omega)
      · rw [decide_eq_false hn, cond_f, if_neg hn, Option.bind_some]
        by_cases he : (pI L[i]).2.2.2 = 0
        · rw [show ((pI L[i]).2.2.2 != 0) = false by simpa using he, cond_f, if_neg (by simpa using he)]
          by_cases hk1 : 1 < (pI L[i]).1
          · rw [decide_eq_true hk1, cond_t, if_pos hk1]
          · rw [decide_eq_false hk1, cond_f, if_neg hk1]
            cases e with
            | true => rfl
            | false =>
              rw [cond_f, if_neg (by simp)]
              by_cases h1 : (pI L[i]).1 = 1
              · rw [show ((pI L[i]).1 == 1) = true by simpa using h1, cond_t, if_pos h1]
                exact goRd hL h8 k (i + 1) m true (by omega) (by omega) (by omega)
              · have hlen : (pI L[i]).2.2.1.length < 400 := by show dl L[i] < 400; omega
                have hl2 := load_len m L[i]
                rw [show ((pI L[i]).1 == 1) = false by simpa using h1, cond_f, if_neg h1, goLoad (by omega) hlen, Option.bind_some]
                exact goRd hL h8 k (i + 1) _ false (by omega) (by omega) (by omega)
        · rw [show ((pI L[i]).2.2.2 != 0) = true by simpa using he, cond_t, if_pos he]
    · rw [decide_eq_false (by omega), cond_f, List.drop_of_length_le (by omega), rdL]
/-! ### lines -/
theorem spl_idx : ∀ (l : List UInt8), (Lib.indexByte l 10 = -1 ∧ spl l = [l] ∧ l.count 10 = 0) ∨ ∃ j : Nat, Lib.indexByte l 10 = (j : Int) ∧ j < l.length ∧ spl l = l.take j :: spl (l.drop (j + 1)) ∧ l.count 10 = (l.drop (j + 1)).count 10 + 1
  | [] => .inl ⟨rfl, rfl, rfl⟩
  | c :: l => by
    by_cases hc : c = 10
    · subst hc
      exact .inr ⟨0, by simp [Lib.indexByte], by simp, by simp [spl], by simp⟩
    · have hb : (c == 10) = false := by simpa using hc
      rcases spl_idx l with ⟨h1, h2, h3⟩ | ⟨j, h1, h2, h3, h4⟩
      · refine .inl ⟨?_, ?_, ?_⟩
        · rw [Lib.indexByte, hb, h1]; rfl
        · rw [spl, if_neg hc, h2]
        · rw [List.count_cons, h3, hb]; rfl
      · refine .inr ⟨j + 1, ?_, by simpa using h2, ?_, ?_⟩
        · rw [Lib.indexByte, hb, h1, if_neg (by simp), if_neg (by simp)]; omega
        · rw [spl, if_neg hc, h3]; rfl
        · rw [List.count_cons, h4, hb]; simp
theorem spl_len : ∀ (l : List UInt8), (spl l).length = l.count 10 + 1
  | [] => rfl
  | c :: l => by
    have ih := spl_len l
    rw [spl]
    split
    · next hc => subst hc; simp [ih]
    · next hc =>
      rw [List.count_cons, show (c == 10) = false by simpa using hc]
      cases hr : spl l with
      | nil => exact absurd hr (spl_ne l)
      | cons x t => rw [hr] at ih; simpa using ih
theorem idx10 (l : List UInt8) : strings_Index_110.f 1000 (ba l) (⟨#[10]⟩ : ByteArray) = some (Lib.indexByte l 10) := rfl
theorem cnt10 (l : List UInt8) : strings_Count_109.f 1000 (ba l) (⟨#[10]⟩ : ByteArray) = some ((l.count 10 : Nat) : Int) := rfl
theorem goSplit {p0 : ByteArray} {n : Nat} (hn : n ≤ 900) : ∀ (k i : Nat) (r : List UInt8) (rows : List ByteArray), rows.length = n + 1 → r.count 10 + i = n → n - i < k → r.length ≤ 100000 →
    ∃ r' rows' i', hexfile_Read_19.l0 1000 p0 (n : Int) k (ba r) rows (i : Int) = some (ba r', rows', ((i' : Nat) : Int)) ∧ i' = n ∧ rows'.length = n + 1 ∧ rows'.take i' ++ [ba r'] = rows.take i ++ (spl r).map ba
  | 0, i, r, rows, _, _, hk, _ => by omega
  | k + 1, i, r, rows, hl, hc, hk, hr => by
    rw [hexfile_Read_19.l0.eq_2]
    rcases spl_idx r with ⟨h1, h2, h3⟩ | ⟨j, h1, h2, h3, h4⟩
    · refine ⟨r, rows, i, ?_, by omega, hl, by rw [h2]; rfl⟩
      rw [decide_eq_false (by omega), cond_f]
    · rw [decide_eq_true (by omega), cond_t, idx10, Option.bind_some, h1, decide_eq_false (by omega), cond_f, show ((⟨#[10]⟩ : ByteArray).size : Int) = 1 from rfl, wrap_i64 (x := (j : Int) + 0) (by omega) (by omega), wrap_i64 (x := (j : Int) + 1) (by omega) (by omega), ba_size,
        cutR_of (by omega) (by omega) (by omega), cond_t, inR_nat (by omega), cond_t, cutR_of (by omega) (by omega) (by omega), cond_t, ba_cut, ba_cut, show ((j : Int) + 0).toNat = j by omega, show ((j : Int) + 1).toNat = j + 1 by omega, Int.toNat_natCast, List.take_length, wrap_nat (by omega)]
      obtain ⟨r', rows', i', g1, g2, g3, g4⟩ := goSplit hn k (i + 1) (r.drop (j + 1)) (stD rows (i : Int) (ba ((r.take j).drop (Int.toNat 0)))) (by rw [stD_length]; exact hl) (by omega) (by omega) (by rw [List.length_drop]; omega)
      refine ⟨r', rows', i', g1, g2, g3, ?_⟩
      rw [g4, h3, List.map_cons]
      unfold stD
      rw [Int.toNat_natCast, Int.toNat_zero, List.drop_zero, List.take_add_one, List.take_set_of_le (by omega), List.getElem?_set_self (by omega)]
      simp
theorem spl_sum : ∀ (l : List UInt8), ((spl l).map List.length).sum ≤ l.length
  | [] => by simp [spl]
  | c :: l => by
    have ih := spl_sum l
    rw [spl]
    split
    · simp; omega
    · cases hr : spl l with
      | nil => exact absurd hr (spl_ne l)
      | cons x t => rw [hr] at ih; simp at ih ⊢; omega
theorem goRead {l : List UInt8} (h6 : l.length ≤ 65536) (hL : (spl l).length ≤ 900) (h8 : ∀ x ∈ spl l, x.length ≤ 800) (hd : dls (spl l) < 400) : hexfile_Read_19.f 1000 (ba l) = some (readL l) := by
  have hlen := spl_len l
  have hcl : l.count 10 ≤ l.length := List.count_le_length
  unfold hexfile_Read_19.f
  rw [decide_eq_false (by rw [ba_size]; omega), cond_f, cnt10, Option.bind_some, ba_size, wrap_i64 (x := (l.length : Int) + 1) (by omega) (by omega), wrap_i64 (x := ((l.count 10 : Nat) : Int) + 1) (by omega) (by omega)]
  have hif : (if (l.length : Int) + 1 < ((l.count 10 : Nat) : Int) + 1 then (l.length : Int) + 1 else ((l.count 10 : Nat) : Int) + 1) = ((l.count 10 + 1 : Nat) : Int) := by rw [if_neg (by omega)]; omega
  rw [hif, makeR_of (by omega) (by omega) (by omega), cond_t, wrap_i64 (x := ((l.count 10 + 1 : Nat) : Int) - 1) (by omega) (by omega), show ((l.count 10 + 1 : Nat) : Int) - 1 = ((l.count 10 : Nat) : Int) by omega, Int.toNat_natCast]
  obtain ⟨r', rows', i', g1, g2, g3, g4⟩ := goSplit (p0 := ba l) (n := l.count 10) (by omega) 1000 0 l (List.replicate (l.count 10 + 1) ByteArray.empty) (by simp) (by omega) (by omega) (by omega)
  rw [show ((0 : Nat) : Int) = 0 from rfl] at g1
  rw [g1, Option.bind_some]
  dsimp only
  subst g2
  have hcut : cutL (stD rows' ((l.count 10 : Nat) : Int) (ba r')) 0 (IntKind.wrap .i64 (((l.count 10 : Nat) : Int) + 1)) = (spl l).map ba := by
    rw [wrap_nat (by omega), cutL_nat]
    unfold stD
    rw [Int.toNat_natCast, List.take_add_one, List.take_set_of_le (by omega), List.getElem?_set_self (by omega)]
    simpa using g4
  have hrd := goRd (p0 := ba l) hL h8 1000 0 [] false (by omega) (by omega) (by simpa using hd)
  rw [show ((0 : Nat) : Int) = 0 from rfl, List.drop_zero] at hrd
  rw [inR_nat (by omega), cond_t, cutR_of (by omega) (by rw [wrap_nat (by omega)]; omega) (by rw [wrap_nat (by omega), stD_length]; omega), cond_t, hcut, List.length_map, hrd, Option.bind_some]
  unfold readL
  cases rdL (spl l) 0 [] false with
  | ret x => rfl
  | go x =>
    obtain ⟨m, e⟩ := x
    cases e <;> rfl
/-! ### the reference's -/
def withAt (x : Lp (Int × Int) (List Cel × Bool)) (n : Int) : Lp (Int × Int) (List Cel × Bool × Int) := match x with | .ret r => .ret r | .go y => .go (y.1, y.2, n)
theorem refRd {l : List UInt8} (h7 : l.length ≤ 700) : ∀ (k i : Nat) (m : List Cel) (e : Bool) (w : List UInt8) (at_ : Nat), i ≤ l.length → l.length + 1 - i < k → w.length ≤ i → (l.take i).drop (i - w.length) = w → okC m → m.length + dls (splw w (l.drop i)) < 400 → at_ ≤ i →
    charabancref33_Read_20.l0 1000 (ba l) k m e (ba w) (at_ : Int) (i : Int) = some (withAt (rdL (splw w (l.drop i)) (at_ : Int) m e) (((at_ + (splw w (l.drop i)).length : Nat)) : Int))
  | 0, i, m, e, w, at_, _, hk, _, _, _, _, _ => by omega
  | k + 1, i, m, e, w, at_, hi, hk, hw, hwe, hm, hd, hat => by
    rw [charabancref33_Read_20.l0.eq_2, ba_size, decide_eq_true (by omega), cond_t]
    simp only [Let]
    have hw8 : w.length ≤ 800 := by omega
    -- a line's end
    have hline : ∀ (rest : List (List UInt8)), m.length + dls (w :: rest) < 400 →
        (∀ m' e', okC m' → m'.length + dls rest < 400 → charabancref33_Read_20.l0 1000 (ba l) k m' e' (⟨#[]⟩ : ByteArray) ((at_ + 1 : Nat) : Int) ((i + 1 : Nat) : Int) = some (withAt (rdL rest ((at_ + 1 : Nat) : Int) m' e') ((at_ + 1 + rest.length : Nat) : Int))) →
        (cond (!((ByteArray.toList (ba w)) == (ByteArray.toList (⟨#[]⟩ : ByteArray)))) ((charabancref33_Parse_15.f 1000 (ba w)).bind fun yt26 => cond (yt26.2.2.2 != 0) (some (Lp.ret (yt26.2.2.2, (IntKind.wrap .i64 ((at_ : Int) + 1))))) (cond (decide (yt26.1 > 1)) (some (Lp.ret (330, (IntKind.wrap .i64 ((at_ : Int) + 1))))) (cond e (some (Lp.ret (332, (IntKind.wrap .i64 ((at_ : Int) + 1))))) (cond (!(yt26.1 == 1)) ((charabancref14_Load_41.f 1000 m yt26.2.1 yt26.2.2.1).bind fun t50 => charabancref33_Read_20.l0 1000 (ba l) k t50 (yt26.1 == 1) (⟨#[]⟩ : ByteArray) (IntKind.wrap .i64 ((at_ : Int) + 1)) (IntKind.wrap .i64 ((i : Int) + 1))) (charabancref33_Read_20.l0 1000 (ba l) k m (yt26.1 == 1) (⟨#[]⟩ : ByteArray) (IntKind.wrap .i64 ((at_ : Int) + 1)) (IntKind.wrap .i64 ((i : Int) + 1))))))) (charabancref33_Read_20.l0 1000 (ba l) k m e (⟨#[]⟩ : ByteArray) (IntKind.wrap .i64 ((at_ : Int) + 1)) (IntKind.wrap .i64 ((i : Int) + 1))))
        = some (withAt (rdL (w :: rest) (at_ : Int) m e) ((at_ + (w :: rest).length : Nat) : Int)) := by
      intro rest hd2 hrest
      rw [dls_cons] at hd2
      rw [wrap_nat (by omega), wrap_nat (by omega), eq_nil, rdL, refP hw8, show (at_ : Int) + 1 = ((at_ + 1 : Nat) : Int) by omega, List.length_cons, show at_ + (rest.length + 1) = at_ + 1 + rest.length by omega]
      by_cases hn : w = []
      · rw [decide_eq_true hn, if_pos hn]
        exact hrest m e hm (by omega)
      · rw [decide_eq_false hn, if_neg hn, Bool.not_false, cond_t, Option.bind_some]
        by_cases he : (pI w).2.2.2 = 0
        · rw [show ((pI w).2.2.2 != 0) = false by simpa using he, cond_f, if_neg (by simpa using he)]
          by_cases hk1 : 1 < (pI w).1
          · rw [decide_eq_true hk1, cond_t, if_pos hk1]; rfl
          · rw [decide_eq_false hk1, cond_f, if_neg hk1]
            cases e with
            | true => rfl
            | false =>
              rw [cond_f, if_neg (by simp)]
              by_cases h1 : (pI w).1 = 1
              · rw [show ((pI w).1 == 1) = true by simpa using h1, Bool.not_true, cond_f, if_pos h1]
                exact hrest m true hm (by omega)
              · have hlen : (pI w).2.2.1.length < 400 := by show dl w < 400; omega
                have hl2 := load_len m w
                rw [show ((pI w).1 == 1) = false by simpa using h1, Bool.not_false, cond_t, if_neg h1, refLoad (by omega) hlen hm (pI_ok w).2.1, Option.bind_some]
                exact hrest _ false (load_ok hm) (by omega)
        · rw [show ((pI w).2.2.2 != 0) = true by simpa using he, cond_t, if_pos he]; rfl
    by_cases h0 : i < l.length
    · rw [decide_eq_true (by omega), cond_t, inR_nat h0, cond_t, ba_bt l h0]
      by_cases hc : l[i] = 10
      · have e1 : ((l[i].toNat : Int) != 10) = false := by rw [hc]; rfl
        rw [e1, cond_f, drop_at h0, hc, splw_nl]
        rw [drop_at h0, hc, splw_nl] at hd
        refine hline _ hd fun m' e' hm' hd' => ?_
        have := refRd h7 k (i + 1) m' e' [] (at_ + 1) (by omega) (by omega) (by simp) (by simp) hm' (by rw [splw_e]; exact hd') (by omega)
        rw [splw_e] at this
        exact this
      · have e1 : ((l[i].toNat : Int) != 10) = true := by
          simp only [bne_iff_ne, ne_eq]
          intro h
          exact hc (UInt8.toNat_inj.1 (by show l[i].toNat = 10; omega))
        rw [e1, cond_t, drop_at h0, splw_c hc]
        rw [drop_at h0, splw_c hc] at hd
        have ew : (l.take (i + 1)).drop (i - w.length) = w ++ [l[i]] := by
          rw [List.take_succ_eq_append_getElem h0, List.drop_append_of_le_length (by simp; omega), hwe]
        rw [ba_size, wrap_i64 (x := (i : Int) - (w.length : Int)) (by omega) (by omega), wrap_nat (by omega), cutR_of (by omega) (by omega) (by omega), cond_t, ba_cut, show ((i : Int) - (w.length : Int)).toNat = i - w.length by omega, Int.toNat_natCast, ew]
        exact refRd h7 k (i + 1) m e _ at_ (by omega) (by omega) (by simp; omega) (by rw [List.length_append, List.length_singleton, show i + 1 - (w.length + 1) = i - w.length by omega]; exact ew) hm hd (by omega)
    · rw [decide_eq_false (by omega), cond_f, cond_f, List.drop_of_length_le (by omega), splw_nil]
      rw [List.drop_of_length_le (by omega), splw_nil] at hd
      refine hline [] hd fun m' e' hm' hd' => ?_
      obtain ⟨k, rfl⟩ : ∃ k', k = k' + 1 := ⟨k - 1, by omega⟩
      rw [charabancref33_Read_20.l0.eq_2, ba_size, decide_eq_false (by omega), cond_f]
      rfl
theorem refRead {l : List UInt8} (h7 : l.length ≤ 700) (hd : dls (spl l) < 400) : charabancref33_Read_20.f 1000 (ba l) = some (readL l) := by
  unfold charabancref33_Read_20.f
  have := refRd h7 1000 0 [] false [] 0 (by omega) (by omega) (by simp) (by simp) (fun p hp => by cases hp) (by rw [List.drop_zero, splw_e]; simpa using hd) (by omega)
  rw [List.drop_zero, splw_e, show ((0 : Nat) : Int) = 0 from rfl, Nat.zero_add] at this
  rw [decide_eq_false (by rw [ba_size]; omega), cond_f, show (⟨#[]⟩ : ByteArray) = ba [] from rfl, this, Option.bind_some]
  unfold readL
  cases rdL (spl l) 0 [] false with
  | ret x => rfl
  | go x =>
    obtain ⟨m, e⟩ := x
    cases e <;> rfl
theorem dls_le : ∀ (r : List (List UInt8)), 2 * dls r ≤ (r.map List.length).sum
  | [] => by simp [dls]
  | x :: r => by
    have := dls_le r
    have := (pI_ok x).2.2.2
    rw [dls_cons, List.map_cons, List.sum_cons]
    omega
end Go.Proofs.YtilgjfckgkkfmaaDoor.Hx
