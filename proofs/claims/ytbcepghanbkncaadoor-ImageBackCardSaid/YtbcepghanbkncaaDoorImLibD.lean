/- What a text is read as, line by line. -/
import Derived.Test.YtbcepghanbkncaaDoorImLibC
set_option linter.unusedVariables false
set_option linter.unusedSimpArgs false
namespace Go.Proofs.YtbcepghanbkncaaDoor.Im
open Go.RowKit Go.Eng
theorem tellR_keep {c c' : Cfg} {r : List UInt8} (h : tellR c r = some c') : c'.1 = c.1 ∧ c'.2.2.2.2 = c.2.2.2.2 := by
  unfold tellR at h
  cases hd : cutS r with
  | none => rw [hd] at h; cases h
  | some q =>
    obtain ⟨p, d⟩ := q
    rw [hd] at h
    dsimp only at h
    cases ha : numO (iL p) 5 with
    | none => rw [ha] at h; cases h
    | some a =>
      rw [ha] at h
      dsimp only at h
      cases hb : prsB (iL d) with
      | none => rw [hb] at h; cases h
      | some b => rw [hb] at h; obtain rfl := Option.some.inj h; exact ⟨rfl, rfl⟩
theorem goLine {c : Cfg} {x : List UInt8} (hx : x.length ≤ 1500) (hr : c.1.length ≤ 3000) (hm : c.2.2.2.1.length ≤ 1050) {ρ : Type} (J : List Int × Int × Int × List Sp × Int × Bool → Option ρ) :
    ∃ o, Ans (tell c x) o ∧ Let (fun (t102 : Bool) => cond t102 (J (c.1, c.2.1, c.2.2.1, c.2.2.2.1, c.2.2.2.2, true)) (Let (fun (yj129 : ByteArray × ByteArray × Bool) => cond (yj129.1 == (⟨#[98, 97, 110, 107, 115]⟩ : ByteArray)) (cond yj129.2.2 ((image_few_39.f 2000 yj129.2.1).bind fun yt167 => J (c.1, yt167.1, c.2.2.1, c.2.2.2.1, c.2.2.2.2, yt167.2)) (J (c.1, c.2.1, c.2.2.1, c.2.2.2.1, c.2.2.2.2, false))) (cond (yj129.1 == (⟨#[98, 97, 110, 107]⟩ : ByteArray)) (cond yj129.2.2 ((image_few_39.f 2000 yj129.2.1).bind fun yt187 => J (c.1, c.2.1, yt187.1, c.2.2.2.1, c.2.2.2.2, yt187.2)) (J (c.1, c.2.1, c.2.2.1, c.2.2.2.1, c.2.2.2.2, false))) (cond (yj129.1 == (⟨#[112, 99]⟩ : ByteArray)) (cond yj129.2.2 ((image_number_24.f 2000 yj129.2.1 4).bind fun yt206 => J (c.1, c.2.1, c.2.2.1, c.2.2.2.1, (IntKind.wrap .u16 yt206.1), yt206.2)) (J (c.1, c.2.1, c.2.2.1, c.2.2.2.1, c.2.2.2.2, false))) (cond (yj129.1 == (⟨#[114, 111, 109]⟩ : ByteArray)) (cond yj129.2.2 ((image_Bytes_9.f 2000 yj129.2.1).bind fun yt217 => cond (mayBe (c.1.length + yt217.1.length) 1) (J ((c.1 ++ yt217.1), c.2.1, c.2.2.1, c.2.2.2.1, c.2.2.2.2, yt217.2)) none) (J (c.1, c.2.1, c.2.2.1, c.2.2.2.1, c.2.2.2.2, false))) (cond (yj129.1 == (⟨#[114, 97, 109]⟩ : ByteArray)) (cond yj129.2.2 (Let (fun (yj345 : Bool × Int × Int × (List (Int × Int))) => J (c.1, yj345.2.1, yj345.2.2.1, yj345.2.2.2, c.2.2.2.2, yj345.1)) (fun j345 => Let (fun (yj271 : ByteArray × ByteArray × Bool) => (image_number_24.f 2000 yj271.1 5).bind fun yt278 => (image_Bytes_9.f 2000 yj271.2.1).bind fun yt284 => Let (fun (t292 : Bool) => cond t292 ((banks_Load_44.f 2000 c.1 c.2.1 c.2.2.1 c.2.2.2.1 yt278.1 yt284.1).bind fun yt312 => cond yj271.2.2 (cond yt278.2 (j345 (yt284.2, yt312.2.1, yt312.2.2.1, yt312.2.2.2)) (j345 (false, yt312.2.1, yt312.2.2.1, yt312.2.2.2))) (j345 (false, yt312.2.1, yt312.2.2.1, yt312.2.2.2))) (cond yj271.2.2 (cond yt278.2 (j345 (yt284.2, c.2.1, c.2.2.1, c.2.2.2.1)) (j345 (false, c.2.1, c.2.2.1, c.2.2.2.1))) (j345 (false, c.2.1, c.2.2.1, c.2.2.2.1)))) (fun j295 => cond yj271.2.2 (cond yt278.2 (j295 yt284.2) (j295 false)) (j295 false))) (fun j271 => (stringslite_Index_76.f 2000 yj129.2.1 (⟨#[32]⟩ : ByteArray)).bind fun t255 => cond (decide (t255 ≥ 0)) (cond (cutR 0 t255 yj129.2.1.size) (cond (cutR (IntKind.wrap .i64 (t255 + ((⟨#[32]⟩ : ByteArray).size : Int))) (yj129.2.1.size : Int) yj129.2.1.size) (j271 ((strCut yj129.2.1 0 t255), (strCut yj129.2.1 (IntKind.wrap .i64 (t255 + ((⟨#[32]⟩ : ByteArray).size : Int))) (yj129.2.1.size : Int)), true)) none) none) (j271 (yj129.2.1, (⟨#[]⟩ : ByteArray), false))))) (J (c.1, c.2.1, c.2.2.1, c.2.2.2.1, c.2.2.2.2, false))) (cond yj129.2.2 (J (c.1, c.2.1, c.2.2.1, c.2.2.2.1, c.2.2.2.2, false)) (J (c.1, c.2.1, c.2.2.1, c.2.2.2.1, c.2.2.2.2, false)))))))) (fun j129 => (stringslite_Index_76.f 2000 (ba x) (⟨#[32]⟩ : ByteArray)).bind fun t113 => cond (decide (t113 ≥ 0)) (cond (cutR 0 t113 (ba x).size) (cond (cutR (IntKind.wrap .i64 (t113 + ((⟨#[32]⟩ : ByteArray).size : Int))) ((ba x).size : Int) (ba x).size) (j129 ((strCut (ba x) 0 t113), (strCut (ba x) (IntKind.wrap .i64 (t113 + ((⟨#[32]⟩ : ByteArray).size : Int))) ((ba x).size : Int)), true)) none) none) (j129 ((ba x), (⟨#[]⟩ : ByteArray), false))))) (fun j105 => cond ((ByteArray.toList (ba x)) == (ByteArray.toList (⟨#[]⟩ : ByteArray))) (j105 true) ((strings_HasPrefix_36.f 2000 (ba x) (⟨#[59]⟩ : ByteArray)).bind fun t101 => j105 t101)) = o.bind J := by
  have hram := fun (r : List UInt8) (hq : r.length ≤ 1500) => goRam (c := c) (r := r) hq hm (fun y => J (c.1, y.2.1, y.2.2.1, y.2.2.2, c.2.2.2.2, y.1))
  obtain ⟨rom, n, bk, ram, pc⟩ := c
  simp only at hr hm
  unfold tell
  simp only [Let] at hram ⊢
  rw [show (⟨#[]⟩ : ByteArray) = ba [] from rfl] at hram ⊢
  rw [ba_tol, hp59, Option.bind_some]
  by_cases h0 : x = []
  · rw [decide_eq_true h0, cond_t, cond_t, if_pos (.inl h0)]
    exact ⟨some (rom, n, bk, ram, pc, true), .inl ⟨_, rfl, rfl⟩, rfl⟩
  · rw [decide_eq_false h0, cond_f]
    by_cases h59 : x.head? = some 59
    · rw [decide_eq_true h59, cond_t, if_pos (.inr h59)]
      exact ⟨some (rom, n, bk, ram, pc, true), .inl ⟨_, rfl, rfl⟩, rfl⟩
    · rw [decide_eq_false h59, cond_f, if_neg (fun h => h.elim h0 h59), sp_idx, Option.bind_some]
      rcases cut_idx x with ⟨h1, h2⟩ | ⟨j, h1, h2, h3⟩
      · rw [h1, decide_eq_false (by omega), cond_f, h2]
        refine ⟨some (rom, n, bk, ram, pc, false), .inr ⟨rfl, (rom, n, bk, ram, pc), rfl⟩, ?_⟩
        simp only [cond_f, Bool.cond_self, Option.bind_some]
      · have e1 : strCut (ba x) 0 (j : Int) = ba (x.take j) := by rw [ba_cut]; rfl
        have e2 : strCut (ba x) ((j : Int) + 1) (x.length : Int) = ba (x.drop (j + 1)) := by rw [ba_cut, Int.toNat_natCast, List.take_length]; rfl
        rw [h1, decide_eq_true (by omega), cond_t, ba_size, cutR_of (by omega) (by omega) (by omega), cond_t, show ((⟨#[32]⟩ : ByteArray).size : Int) = 1 from rfl, wrap_i64 (x := (j : Int) + 1) (by omega) (by omega), cutR_of (by omega) (by omega) (by omega), cond_t, e1, e2, h3]
        dsimp only
        have hq : (x.drop (j + 1)).length ≤ 1500 := by rw [List.length_drop]; omega
        generalize x.take j = w
        generalize x.drop (j + 1) = r at hq ⊢
        rw [show (ba w == (⟨#[98, 97, 110, 107, 115]⟩ : ByteArray)) = decide (w = [98, 97, 110, 107, 115]) from ba_beq w [98, 97, 110, 107, 115], show (ba w == (⟨#[98, 97, 110, 107]⟩ : ByteArray)) = decide (w = [98, 97, 110, 107]) from ba_beq w [98, 97, 110, 107],
          show (ba w == (⟨#[112, 99]⟩ : ByteArray)) = decide (w = [112, 99]) from ba_beq w [112, 99], show (ba w == (⟨#[114, 111, 109]⟩ : ByteArray)) = decide (w = [114, 111, 109]) from ba_beq w [114, 111, 109], show (ba w == (⟨#[114, 97, 109]⟩ : ByteArray)) = decide (w = [114, 97, 109]) from ba_beq w [114, 97, 109]]
        simp only [cond_t]
        unfold tellW
        have hs : (ba r).size ≤ 1900 := by rw [ba_size]; omega
        by_cases w1 : w = [98, 97, 110, 107, 115]
        · rw [decide_eq_true w1, cond_t, if_pos w1]
          rcases goFew hs with ⟨v, hv, h⟩ | ⟨hv, v, h⟩
          · rw [h, show fewO (iL r) = some v from hv]
            exact ⟨some (rom, v, bk, ram, pc, true), .inl ⟨_, rfl, rfl⟩, rfl⟩
          · rw [h, show fewO (iL r) = none from hv]
            exact ⟨some (rom, v, bk, ram, pc, false), .inr ⟨rfl, (rom, v, bk, ram, pc), rfl⟩, rfl⟩
        · rw [decide_eq_false w1, cond_f, if_neg w1]
          by_cases w2 : w = [98, 97, 110, 107]
          · rw [decide_eq_true w2, cond_t, if_pos w2]
            rcases goFew hs with ⟨v, hv, h⟩ | ⟨hv, v, h⟩
            · rw [h, show fewO (iL r) = some v from hv]
              exact ⟨some (rom, n, v, ram, pc, true), .inl ⟨_, rfl, rfl⟩, rfl⟩
            · rw [h, show fewO (iL r) = none from hv]
              exact ⟨some (rom, n, v, ram, pc, false), .inr ⟨rfl, (rom, n, v, ram, pc), rfl⟩, rfl⟩
          · rw [decide_eq_false w2, cond_f, if_neg w2]
            by_cases w3 : w = [112, 99]
            · rw [decide_eq_true w3, cond_t, if_pos w3, show (4 : Int) = ((4 : Nat) : Int) from rfl]
              rcases goNum (many := 4) (by omega) hs with ⟨v, hv, h⟩ | ⟨hv, v, h⟩
              · rw [h, show numO (iL r) 4 = some v from hv]
                exact ⟨some (rom, n, bk, ram, IntKind.wrap .u16 v, true), .inl ⟨_, rfl, rfl⟩, rfl⟩
              · rw [h, show numO (iL r) 4 = none from hv]
                exact ⟨some (rom, n, bk, ram, IntKind.wrap .u16 v, false), .inr ⟨rfl, (rom, n, bk, ram, IntKind.wrap .u16 v), rfl⟩, rfl⟩
            · rw [decide_eq_false w3, cond_f, if_neg w3]
              by_cases w4 : w = [114, 111, 109]
              · have hbl := bytO_len (bytesI (ba r))
                rw [bytesI_len, ba_size] at hbl
                rw [decide_eq_true w4, cond_t, if_pos w4, goByt hs, Option.bind_some, mayBe_of (by omega) (by omega), cond_t]
                show ∃ o, Ans ((prsB (bytesI (ba r))).map _) o ∧ _
                unfold bytO
                cases prsB (bytesI (ba r)) with
                | none => exact ⟨some (rom ++ [], n, bk, ram, pc, false), .inr ⟨rfl, (rom ++ [], n, bk, ram, pc), rfl⟩, rfl⟩
                | some v => exact ⟨some (rom ++ v, n, bk, ram, pc, true), .inl ⟨_, rfl, rfl⟩, rfl⟩
              · rw [decide_eq_false w4, cond_f, if_neg w4]
                by_cases w5 : w = [114, 97, 109]
                · rw [decide_eq_true w5, cond_t, if_pos w5]
                  obtain ⟨o, ho, e⟩ := hram r hq
                  rcases ho with ⟨c', h4, rfl⟩ | ⟨h4, c', rfl⟩
                  · obtain ⟨k1, k2⟩ := tellR_keep h4
                    rw [h4]
                    exact ⟨_, .inl ⟨c', rfl, rfl⟩, by rw [k1, k2]; exact e⟩
                  · rw [h4]
                    exact ⟨some (rom, c'.2.1, c'.2.2.1, c'.2.2.2.1, pc, false), .inr ⟨rfl, (rom, c'.2.1, c'.2.2.1, c'.2.2.2.1, pc), rfl⟩, e⟩
                · rw [decide_eq_false w5, cond_f, if_neg w5]
                  exact ⟨some (rom, n, bk, ram, pc, false), .inr ⟨rfl, (rom, n, bk, ram, pc), rfl⟩, rfl⟩
/-- How many bytes the lines have. -/
def lns (r : List (List UInt8)) : Nat := (r.map List.length).sum
theorem lns_cons (x : List UInt8) (r : List (List UInt8)) : lns (x :: r) = x.length + lns r := by simp [lns]
theorem goRd {p0 : ByteArray} {L : List (List UInt8)} (hL : L.length ≤ 1900) : ∀ (k i : Nat) (c : Cfg), i ≤ L.length → L.length - i < k → c.1.length + lns (L.drop i) ≤ 1500 → 2 * c.2.2.2.1.length + lns (L.drop i) ≤ 2000 →
    image_Read_7.l1 2000 p0 (L.map ba) (L.length : Int) k c.1 c.2.1 c.2.2.1 c.2.2.2.1 c.2.2.2.2 (i : Int) = some (rdT (L.drop i) (i : Int) c)
  | 0, i, c, _, hk, _, _ => by omega
  | k + 1, i, c, hi, hk, hr, hm => by
    rw [image_Read_7.l1.eq_2]
    by_cases h0 : i < L.length
    · rw [drop_at h0, lns_cons] at hr hm
      rw [decide_eq_true (by omega), cond_t, inR_nat (by rw [List.length_map]; exact h0), cond_t, rdD_nat _ (by rw [List.length_map]; exact h0), List.getElem_map, drop_at h0, rdT, wrap_nat (by omega), show (i : Int) + 1 = ((i + 1 : Nat) : Int) by omega]
      obtain ⟨o, ho, e⟩ := goLine (c := c) (x := L[i]) (by omega) (by omega) (by omega) (fun y => cond (!y.2.2.2.2.2) (some (Lp.ret ((i + 1 : Nat) : Int))) (image_Read_7.l1 2000 p0 (L.map ba) (L.length : Int) k y.1 y.2.1 y.2.2.1 y.2.2.2.1 y.2.2.2.2.1 ((i + 1 : Nat) : Int)))
      refine Eq.trans e ?_
      rcases ho with ⟨c', h4, rfl⟩ | ⟨h4, c', rfl⟩
      · have hl := tell_len h4
        rw [h4]
        exact goRd hL k (i + 1) c' (by omega) (by omega) (by omega) (by omega)
      · rw [h4]
        rfl
    · rw [decide_eq_false (by omega), cond_f, List.drop_of_length_le (by omega), rdT]
/-- What is read. -/
def readS (l : List UInt8) : List Int × Int × Int × List Sp × Int × Int × Int := Lp.elim (rdT (spl l) 0 ([], 1, 0, [], 0)) (fun at_ => ([], 0, 0, [], 0, 300, at_)) (fun c => if ckS c.1 c.2.1 c.2.2.1 c.2.2.2.1 then (c.1, c.2.1, c.2.2.1, c.2.2.2.1, c.2.2.2.2, 0, 0) else ([], 0, 0, [], 0, 140, 0))
theorem rd_len : ∀ (r : List (List UInt8)) (i : Int) (c c' : Cfg), rdT r i c = .go c' → 2 * c'.2.2.2.1.length ≤ 2 * c.2.2.2.1.length + lns r ∧ c'.1.length ≤ c.1.length + lns r
  | [], i, c, c', h => by cases h; simp [lns]
  | x :: r, i, c, c', h => by
    rw [rdT] at h
    cases ht : tell c x with
    | none => rw [ht] at h; cases h
    | some d =>
      rw [ht] at h
      have h1 := tell_len ht
      have h2 := rd_len r _ _ _ h
      rw [lns_cons]
      omega
theorem goRead {l : List UInt8} (h6 : l.length ≤ 1500) : image_Read_7.f 2000 (ba l) = some (readS l) := by
  have hlen := spl_len l
  have hcl : l.count 10 ≤ l.length := List.count_le_length
  have hs : lns (spl l) ≤ l.length := spl_sum l
  unfold image_Read_7.f
  rw [decide_eq_false (by rw [ba_size]; omega), cond_f, cnt10, Option.bind_some, ba_size, wrap_i64 (x := (l.length : Int) + 1) (by omega) (by omega), wrap_i64 (x := ((l.count 10 : Nat) : Int) + 1) (by omega) (by omega)]
  have hif : (if (l.length : Int) + 1 < ((l.count 10 : Nat) : Int) + 1 then (l.length : Int) + 1 else ((l.count 10 : Nat) : Int) + 1) = ((l.count 10 + 1 : Nat) : Int) := by rw [if_neg (by omega)]; omega
  rw [hif, makeR_of (by omega) (by omega) (by omega), cond_t, wrap_i64 (x := ((l.count 10 + 1 : Nat) : Int) - 1) (by omega) (by omega), show ((l.count 10 + 1 : Nat) : Int) - 1 = ((l.count 10 : Nat) : Int) by omega, Int.toNat_natCast]
  obtain ⟨r', rows', i', g1, g2, g3, g4⟩ := goSplit (p0 := ba l) (n := l.count 10) (by omega) 2000 0 l (List.replicate (l.count 10 + 1) ByteArray.empty) (by simp) (by omega) (by omega) (by omega)
  rw [show ((0 : Nat) : Int) = 0 from rfl] at g1
  rw [g1, Option.bind_some]
  dsimp only
  subst g2
  have hcut : cutL (stD rows' ((l.count 10 : Nat) : Int) (ba r')) 0 (IntKind.wrap .i64 (((l.count 10 : Nat) : Int) + 1)) = (spl l).map ba := by
    rw [wrap_nat (by omega), cutL_nat]
    unfold stD
    rw [Int.toNat_natCast, List.take_add_one, List.take_set_of_le (by omega), List.getElem?_set_self (by omega)]
    simpa using g4
  have hrd := goRd (p0 := ba l) (L := spl l) (by omega) 2000 0 ([], 1, 0, [], 0) (by omega) (by omega) (by simp; omega) (by simp; omega)
  rw [show ((0 : Nat) : Int) = 0 from rfl, List.drop_zero] at hrd
  dsimp only at hrd
  rw [inR_nat (by omega), cond_t, cutR_of (by omega) (by rw [wrap_nat (by omega)]; omega) (by rw [wrap_nat (by omega), stD_length]; omega), cond_t, hcut, List.length_map, hrd, Option.bind_some]
  unfold readS
  cases hq : rdT (spl l) 0 ([], 1, 0, [], 0) with
  | ret x => rfl
  | go c =>
    have hrl := rd_len _ _ _ _ hq
    simp only [List.length_nil, Nat.zero_add] at hrl
    simp only [Lp.elim]
    unfold image_Check_18.f
    rw [check_eq (by omega) (by omega) (by omega), Option.bind_some, Option.bind_some]
    split <;> rfl
/-! ### the reference's -/
theorem refRd {l : List UInt8} (h7 : l.length ≤ 1500) : ∀ (k i : Nat) (c : Cfg) (w : List UInt8) (at_ : Nat), i ≤ l.length → l.length + 1 - i < k → w.length ≤ i → (l.take i).drop (i - w.length) = w → c.1.length + lns (splw w (l.drop i)) ≤ 1500 → 2 * c.2.2.2.1.length + lns (splw w (l.drop i)) ≤ 2000 → at_ ≤ i →
    charabancref30_Read_8.l0 2000 (ba l) k c.1 c.2.1 c.2.2.1 c.2.2.2.1 c.2.2.2.2 (ba w) ((at_ + 1 : Nat) : Int) (i : Int) = some (rdT (splw w (l.drop i)) (at_ : Int) c)
  | 0, i, c, w, at_, _, hk, _, _, _, _, _ => by omega
  | k + 1, i, c, w, at_, hi, hk, hw, hwe, hr, hm, hat => by
    rw [charabancref30_Read_8.l0.eq_2, ba_size, decide_eq_true (by omega), cond_t]
    simp only [Let]
    -- a line's end
    have hline : ∀ (rest : List (List UInt8)), c.1.length + lns (w :: rest) ≤ 1500 → 2 * c.2.2.2.1.length + lns (w :: rest) ≤ 2000 →
        (∀ c' : Cfg, c'.1.length + lns rest ≤ 1500 → 2 * c'.2.2.2.1.length + lns rest ≤ 2000 → charabancref30_Read_8.l0 2000 (ba l) k c'.1 c'.2.1 c'.2.2.1 c'.2.2.2.1 c'.2.2.2.2 (⟨#[]⟩ : ByteArray) ((at_ + 1 + 1 : Nat) : Int) ((i + 1 : Nat) : Int) = some (rdT rest ((at_ + 1 : Nat) : Int) c')) →
        ((charabancref30_told_22.f 2000 c.1 c.2.1 c.2.2.1 c.2.2.2.1 c.2.2.2.2 (ba w)).bind fun yt49 => cond (!yt49.2.2.2.2.2) (some (Lp.ret ((at_ + 1 : Nat) : Int))) (charabancref30_Read_8.l0 2000 (ba l) k yt49.1 yt49.2.1 yt49.2.2.1 yt49.2.2.2.1 yt49.2.2.2.2.1 (⟨#[]⟩ : ByteArray) (IntKind.wrap .i64 (((at_ + 1 : Nat) : Int) + 1)) (IntKind.wrap .i64 ((i : Int) + 1))))
        = some (rdT (w :: rest) (at_ : Int) c) := by
      intro rest hd1 hd2 hrest
      rw [lns_cons] at hd1 hd2
      rw [wrap_nat (by omega), wrap_nat (by omega), rdT]
      rcases refTold (c := c) (x := w) (by omega) (by omega) (by omega) with ⟨c', h4, e⟩ | ⟨h4, c', e⟩
      · have hl := tell_len h4
        rw [e, h4]
        exact hrest c' (by omega) (by omega)
      · rw [e, h4]
        rfl
    by_cases h0 : i < l.length
    · rw [decide_eq_true (by omega), cond_t, inR_nat h0, cond_t, ba_bt l h0]
      by_cases hc : l[i] = 10
      · have e1 : ((l[i].toNat : Int) != 10) = false := by rw [hc]; rfl
        rw [e1, cond_f, drop_at h0, hc, splw_nl]
        rw [drop_at h0, hc, splw_nl] at hr hm
        refine hline _ hr hm fun c' hr' hm' => ?_
        have := refRd h7 k (i + 1) c' [] (at_ + 1) (by omega) (by omega) (by simp) (by simp) (by rw [splw_e]; exact hr') (by rw [splw_e]; exact hm') (by omega)
        rw [splw_e] at this
        exact this
      · have e1 : ((l[i].toNat : Int) != 10) = true := by
          simp only [bne_iff_ne, ne_eq]
          intro h
          exact hc (UInt8.toNat_inj.1 (by show l[i].toNat = 10; omega))
        rw [e1, cond_t, drop_at h0, splw_c hc]
        rw [drop_at h0, splw_c hc] at hr hm
        have ew : (l.take (i + 1)).drop (i - w.length) = w ++ [l[i]] := by
          rw [List.take_succ_eq_append_getElem h0, List.drop_append_of_le_length (by simp; omega), hwe]
        rw [ba_size, wrap_i64 (x := (i : Int) - (w.length : Int)) (by omega) (by omega), wrap_nat (by omega), cutR_of (by omega) (by omega) (by omega), cond_t, ba_cut, show ((i : Int) - (w.length : Int)).toNat = i - w.length by omega, Int.toNat_natCast, ew]
        exact refRd h7 k (i + 1) c _ at_ (by omega) (by omega) (by simp; omega) (by rw [List.length_append, List.length_singleton, show i + 1 - (w.length + 1) = i - w.length by omega]; exact ew) hr hm (by omega)
    · rw [decide_eq_false (by omega), cond_f, cond_f, List.drop_of_length_le (by omega), splw_nil]
      rw [List.drop_of_length_le (by omega), splw_nil] at hr hm
      refine hline [] hr hm fun c' hr' hm' => ?_
      obtain ⟨k, rfl⟩ : ∃ k', k = k' + 1 := ⟨k - 1, by omega⟩
      rw [charabancref30_Read_8.l0.eq_2, ba_size, decide_eq_false (by omega), cond_f]
      rfl
theorem refRead {l : List UInt8} (h7 : l.length ≤ 1500) : charabancref30_Read_8.f 2000 (ba l) = some (readS l) := by
  have hs : lns (spl l) ≤ l.length := spl_sum l
  unfold charabancref30_Read_8.f
  have := refRd h7 2000 0 ([], 1, 0, [], 0) [] 0 (by omega) (by omega) (by simp) (by simp) (by rw [List.drop_zero, splw_e]; simp; omega) (by rw [List.drop_zero, splw_e]; simp; omega) (by omega)
  rw [List.drop_zero, splw_e, show ((0 : Nat) : Int) = 0 from rfl, show (((0 + 1 : Nat)) : Int) = 1 from rfl] at this
  dsimp only at this
  rw [decide_eq_false (by rw [ba_size]; omega), cond_f, show (⟨#[]⟩ : ByteArray) = ba [] from rfl, this, Option.bind_some]
  unfold readS
  cases hq : rdT (spl l) 0 ([], 1, 0, [], 0) with
  | ret x => rfl
  | go c =>
    have hrl := rd_len _ _ _ _ hq
    simp only [List.length_nil, Nat.zero_add] at hrl
    simp only [Lp.elim]
    unfold charabancref30_Check_19.f
    rw [rcheck_eq (by omega) (by omega), Option.bind_some, Option.bind_some]
    split <;> rfl
end Go.Proofs.YtbcepghanbkncaaDoor.Im
