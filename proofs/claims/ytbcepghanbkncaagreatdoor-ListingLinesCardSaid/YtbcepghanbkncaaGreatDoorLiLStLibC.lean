/- Rows of a listing, of the program: digits and plain text. -/
import Derived.Test.YtbcepghanbkncaaGreatDoorLiLStLibB
import Derived.Lib.MapLaws
import Derived.Lib.TrimUEq
set_option linter.unusedVariables false
set_option linter.unusedSimpArgs false
namespace Go.Proofs.YtbcepghanbkncaaGreatDoor.LiL.St
open Go.RowKit Go.Eng Go.Proofs.YtbcepghanbkncaaGreatDoor.LiL
def plB (v : Int) : UInt8 := UInt8.ofNat (plainR v).toNat
def latT (b : List Int) : List UInt8 := b.flatMap u8B
def plainT (b : List Int) : List UInt8 := b.map plB
theorem dec_u8B {r : Int} (h : 0 ≤ r ∧ r ≤ 255) (t : List UInt8) : Lib.decodeL (u8B r ++ t) = (r.toNat, (u8B r).length) := by
  rw [Lib.decodeL_N]
  unfold u8B
  split
  · rename_i h1
    have : (UInt8.ofNat r.toNat).toNat = r.toNat := by simp; omega
    simp only [List.cons_append, List.nil_append, List.getD_cons_zero, this, List.length_cons, List.length_nil]
    unfold Lib.decodeN
    rw [if_pos (by omega)]
  · have e0 : (UInt8.ofNat (192 + r / 64).toNat).toNat = (192 + r / 64).toNat := by simp; omega
    have e1 : (UInt8.ofNat (128 + r % 64).toNat).toNat = (128 + r % 64).toNat := by simp; omega
    simp only [List.cons_append, List.nil_append, List.getD_cons_zero, List.getD_cons_succ, e0, e1, List.length_cons, List.length_nil]
    unfold Lib.decodeN
    rw [if_neg (by omega), if_pos ⟨by omega, by omega, by omega⟩, if_pos (by omega)]
    congr 1; omega
theorem plainR_in {r : Int} (h : 0 ≤ r ∧ r ≤ 255) : 32 ≤ plainR r ∧ plainR r ≤ 126 := by unfold plainR; split <;> omega
theorem enc_plain {r : Int} (h : 0 ≤ r ∧ r ≤ 255) : Lib.encodeRune (plainR r) = [plB r] := by
  have := plainR_in h
  unfold Lib.encodeRune
  rw [Lib.encodeRuneZ_one (by omega) (by omega)]; rfl
theorem u8B_ne (r : Int) : u8B r ≠ [] := by intro h; have := (u8B_len r).1; rw [h] at this; simp at this
theorem map_plain : ∀ {b : List Int}, Dc.By b → Lib.mapD plainR (latT b) = plainT b
  | [], _ => Lib.mapD_nil _
  | x :: b, h => by
    have hx := h x List.mem_cons_self
    have hp := plainR_in hx
    rw [latT, List.flatMap_cons, Lib.mapD_step _ _ (by intro h; exact u8B_ne x (List.append_eq_nil_iff.1 h).1), dec_u8B hx]
    show (if 0 ≤ plainR ((x.toNat : Nat) : Int) then Lib.encodeRune (plainR ((x.toNat : Nat) : Int)) else []) ++ Lib.mapD plainR (List.drop (u8B x).length _) = _
    rw [show ((x.toNat : Nat) : Int) = x by omega, if_pos (by omega), enc_plain hx, List.drop_left]
    have ih := map_plain (b := b) (fun y hy => h y (List.mem_cons_of_mem _ hy))
    unfold latT at ih
    rw [ih]; rfl
theorem latT_len : ∀ b : List Int, (latT b).length ≤ 2 * b.length
  | [] => by simp [latT]
  | x :: b => by rw [latT, List.flatMap_cons, List.length_append]; have := latT_len b; unfold latT at this; have := (u8B_len x).2; rw [List.length_cons]; omega
theorem lat_loop {b : List Int} (hb : Dc.By b) (hl : b.length < 900) : ∀ (m k i : Nat) (t : List UInt8), i ≤ b.length → b.length - i = m → m < k → t.length ≤ 2 * i → listing_latin_67.l0 1000 b k t (i : Int) = some (t ++ latT (b.drop i))
  | m, 0, i, t, _, _, hk, _ => by omega
  | m, k + 1, i, t, h1, h2, hk, h3 => by
    rw [listing_latin_67.l0.eq_2]
    by_cases hi : i < b.length
    · have hx := hb _ (List.getElem_mem hi)
      rw [← rdD_nat b hi] at hx
      have hu := u8B_len (rdD b (i : Int))
      have hw : IntKind.wrap .i32 (rdD b (i : Int)) = rdD b (i : Int) := by rw [IntKind.wrap_i32]; omega
      rw [decide_eq_true (by omega), cond_t, inR_nat hi, cond_t, hw, wrap_i64 (x := (i : Int) + 1) (by omega) (by omega)]
      rw [show bldQ t.length (rdD b (i : Int)) = true by simp [bldQ]; omega, cond_t]
      have ih := lat_loop hb hl (m - 1) k (i + 1) (t ++ u8B (rdD b (i : Int))) (by omega) (by omega) (by omega) (by simp; omega)
      refine ih.trans ?_
      rw [Ce.rd_drop hi, List.append_assoc]; rfl
    · rw [decide_eq_false (by omega), cond_f, List.drop_eq_nil_of_le (by omega)]; simp [latT]
theorem go_plain {b : List Int} (hb : Dc.By b) (hl : b.length < 900) : listing_plain_40.f 1000 b = some (ba (plainT b)) := by
  unfold listing_plain_40.f listing_latin_67.f
  have := lat_loop hb hl _ 1000 0 [] (by omega) rfl (by omega) (by simp)
  rw [show ((0 : Nat) : Int) = 0 from rfl, List.drop_zero, List.nil_append] at this
  have hlen := latT_len b
  rw [this, Option.bind_some, Option.bind_some]
  show cond (Nat.blt (ba (latT b)).size 35184372088832) (some (ba (Lib.mapD plainR (ba (latT b)).data.toList))) none = _
  rw [ba_size, ba_list, show Nat.blt (latT b).length 35184372088832 = true by simp [Nat.blt]; omega, cond_t, map_plain hb]
def hexesT (b : List Int) : List UInt8 := b.flatMap fun v => 32 :: hx2 v
def rowI (l : List Cel) (a : Int) : List UInt8 := Tx.hexT a 4 ++ [58] ++ hexesT (Ce.dumpC (getC l) a 16) ++ [32, 32] ++ plainT (Ce.dumpC (getC l) a 16)
def rowsI (l : List Cel) : Int → Nat → List ByteArray
  | _, 0 => []
  | a, n + 1 => ba (rowI l a) :: rowsI l (IntKind.wrap .u16 (a + 16)) n
theorem hexes_len : ∀ b : List Int, (hexesT b).length = 3 * b.length
  | [] => rfl
  | x :: b => by rw [hexesT, List.flatMap_cons, List.length_append]; have := hexes_len b; unfold hexesT at this; rw [this]; simp [hx2]; omega
theorem go_row_loop {p0 : List (Int × Int)} {p1 p2 t23 : Int} {t26 : List ByteArray} {b : List Int} (hb : Dc.By b) (hl : b.length < 900) (t31 : Int) {t32 : Int} (ht : t32 = (b.length : Int)) : ∀ (m k i : Nat) (t : List UInt8), i ≤ b.length → b.length - i = m → m < k → t.length ≤ 100 + 3 * i →
    listing_Rows_15.l0 1000 p0 p1 p2 t23 t26 b t31 t32 k (ba t) (i : Int) = some (ba (t ++ hexesT (b.drop i)))
  | m, 0, i, t, _, _, hk, _ => by omega
  | m, k + 1, i, t, h1, h2, hk, h3 => by
    rw [listing_Rows_15.l0.eq_2, ht]
    by_cases hi : i < b.length
    · have hx := hb _ (List.getElem_mem hi)
      rw [← rdD_nat b hi] at hx
      rw [decide_eq_true (by omega), cond_t, inR_nat hi, cond_t, go_dig (b := [rdD b (i : Int)]) (by intro x hx'; rw [List.mem_singleton.1 hx']; exact hx) (by simp), Option.bind_some, wrap_i64 (x := (i : Int) + 1) (by omega) (by omega)]
      rw [show (⟨#[32]⟩ : ByteArray) = ba [32] from rfl, show digT [rdD b (i : Int)] = hx2 (rdD b (i : Int)) by simp [digT]]
      simp only [ba_app, ba_size]
      rw [cat_of (by simp [hx2]), cond_t, cat_of (by simp [hx2]; omega), cond_t]
      have ih := go_row_loop (p0 := p0) (p1 := p1) (p2 := p2) (t23 := t23) (t26 := t26) hb hl t31 ht (m - 1) k (i + 1) (t ++ ([32] ++ hx2 (rdD b (i : Int)))) (by omega) (by omega) (by omega) (by simp [hx2]; omega)
      rw [ht] at ih
      refine ih.trans ?_
      rw [Ce.rd_drop hi, List.append_assoc]; rfl
    · rw [decide_eq_false (by omega), cond_f, List.drop_eq_nil_of_le (by omega)]; simp [hexesT]
theorem rowsI_len (l : List Cel) : ∀ (n : Nat) (a : Int), (rowsI l a n).length = n
  | 0, _ => rfl
  | n + 1, a => by rw [rowsI, List.length_cons, rowsI_len l n]
theorem plainT_len (b : List Int) : (plainT b).length = b.length := by unfold plainT; rw [List.length_map]
theorem go_rows_loop {l : List Cel} (h : Okl l) {n p1 p2 : Int} (hn : n = (if 200 < p2 then 200 else p2)) (hn2 : n ≤ 200) : ∀ (m k i : Nat) (out : List ByteArray) (a : Int), (n - i).toNat = m → m < k → i ≤ 900 → out.length ≤ i → (0 ≤ a ∧ a < 65536) →
    listing_Rows_15.l1 1000 l p1 p2 k a out (i : Int) = some (out ++ rowsI l a m)
  | m, 0, i, out, a, _, hk, _, _, _ => by omega
  | m, k + 1, i, out, a, h2, hk, h3, h4, ha => by
    rw [listing_Rows_15.l1.eq_2, ← hn]
    by_cases hi : (i : Int) < n
    · obtain ⟨m, rfl⟩ : ∃ q, m = q + 1 := ⟨m - 1, by omega⟩
      have hd : cells_Dump_39.f 1000 l a 16 = some (Ce.dumpC (getC l) a 16) := Ce.goDump (by have := h.len; omega) a (by decide)
      have hdl : (Ce.dumpC (getC l) a 16).length = 16 := Ce.dumpC_len _ _ _
      have hby := dump_by h 16 a
      have hxl := Tx.hexT_len a 4
      have hsl := hexes_len (Ce.dumpC (getC l) a 16)
      have hpl := plainT_len (Ce.dumpC (getC l) a 16)
      rw [decide_eq_true hi, cond_t, hd, Option.bind_some, wrap_i64 (x := a) (by omega) (by omega), Tx.goHex (show Tx.i64 a by unfold Tx.i64; omega), Option.bind_some]
      rw [show (⟨#[58]⟩ : ByteArray) = ba [58] from rfl, show (⟨#[32, 32]⟩ : ByteArray) = ba [32, 32] from rfl]
      simp only [ba_app, ba_size]
      rw [cat_of (by simp only [List.length_cons, List.length_nil]; omega), cond_t]
      have hr := go_row_loop (p0 := l) (p1 := p1) (p2 := p2) (t23 := a) (t26 := out) (b := Ce.dumpC (getC l) a 16) hby (by omega) (i : Int) rfl _ 1000 0 (Tx.hexT a 4 ++ [58]) (by omega) rfl (by omega) (by simp; omega)
      rw [show ((0 : Nat) : Int) = 0 from rfl, List.drop_zero] at hr
      rw [hr, Option.bind_some]
      simp only [ba_app, ba_size]
      rw [cat_of (by simp only [List.length_append, List.length_cons, List.length_nil]; omega), cond_t, go_plain hby (by omega), Option.bind_some]
      simp only [ba_app, ba_size]
      rw [cat_of (by simp only [List.length_append, List.length_cons, List.length_nil]; omega), cond_t, mayBe_of (by simp; omega) (by simp; omega), cond_t, wrap_i64 (by omega) (by omega)]
      have ih := go_rows_loop h (p1 := p1) hn hn2 m k (i + 1) (out ++ [ba (rowI l a)]) (IntKind.wrap .u16 (a + 16)) (by omega) (by omega) (by omega) (by simp; omega) (Ce.w16_in _)
      refine Eq.trans ?_ (ih.trans ?_)
      · rfl
      · rw [List.append_assoc]; rfl
    · obtain rfl : m = 0 := by omega
      rw [decide_eq_false hi, cond_f, rowsI, List.append_nil]
theorem goRows {l : List Cel} (h : Okl l) {a : Int} (ha : 0 ≤ a ∧ a < 65536) (p2 : Int) : listing_Rows_15.f 1000 l a p2 = some (rowsI l a (min 200 p2).toNat) := by
  unfold listing_Rows_15.f
  have := go_rows_loop h (p1 := a) (p2 := p2) (n := if 200 < p2 then 200 else p2) rfl (by split <;> omega) _ 1000 0 [] a rfl (by split <;> omega) (by omega) (by simp) ha
  rw [show ((0 : Nat) : Int) = 0 from rfl, List.nil_append] at this
  rw [this, Option.bind_some, show ((if 200 < p2 then 200 else p2) - 0).toNat = (min 200 p2).toNat by split <;> omega]
theorem same_loop (x : List ByteArray) (hx : x.length < 900) : ∀ (m k i : Nat), i ≤ x.length → x.length - i = m → m < k → charabancref09_Same_16.l0 1000 x x k (i : Int) = some (Lp.go ())
  | m, 0, i, _, _, hk => by omega
  | m, k + 1, i, h1, h2, hk => by
    rw [charabancref09_Same_16.l0.eq_2]
    by_cases hi : i < x.length
    · rw [decide_eq_true (by omega), cond_t, inR_nat hi, cond_t, cond_t, beq_self_eq_true, Bool.not_true, cond_f, wrap_i64 (by omega) (by omega)]
      exact same_loop x hx (m - 1) k (i + 1) (by omega) (by omega) (by omega)
    · rw [decide_eq_false (by omega), cond_f]
theorem same_self (x : List ByteArray) (hx : x.length < 900) : charabancref09_Same_16.f 1000 x x = some true := by
  unfold charabancref09_Same_16.f
  have := same_loop x hx _ 1000 0 (by omega) rfl (by omega)
  rw [show ((0 : Nat) : Int) = 0 from rfl] at this
  rw [bne_self_eq_false, cond_f, this]; rfl
end Go.Proofs.YtbcepghanbkncaaGreatDoor.LiL.St
