/- Lines of a listing: one line, of the program. -/
import Derived.Test.YtbcepghanbkncaaGreatDoorLiLStLibA
set_option linter.unusedVariables false
set_option linter.unusedSimpArgs false
namespace Go.Proofs.YtbcepghanbkncaaGreatDoor.LiL.St
open Go.RowKit Go.Eng Go.Proofs.YtbcepghanbkncaaGreatDoor.LiL
structure Okl (l : List Cel) : Prop where
  len : l.length ≤ 60
  ad : ∀ p ∈ l, 0 ≤ p.1 ∧ p.1 < 65536
  val : ∀ p ∈ l, 0 ≤ p.2 ∧ p.2 < 256
theorem get_in : ∀ {l : List Cel} (h : ∀ p ∈ l, 0 ≤ p.2 ∧ p.2 < 256) (b a : Int), 0 ≤ b ∧ b < 256 → 0 ≤ l.foldl (fun b p => if p.1 = a then p.2 else b) b ∧ l.foldl (fun b p => if p.1 = a then p.2 else b) b < 256
  | [], _, b, a, hb => hb
  | p :: l, h, b, a, hb => by
    rw [List.foldl_cons]
    refine get_in (fun q hq => h q (List.mem_cons_of_mem _ hq)) _ a ?_
    split
    · exact h p List.mem_cons_self
    · exact hb
theorem dump_by {l : List Cel} (h : Okl l) : ∀ (n : Nat) (a : Int), Dc.By (Ce.dumpC (getC l) a n)
  | 0, _ => fun x hx => absurd hx (by simp [Ce.dumpC])
  | n + 1, a => fun x hx => by
    rcases List.mem_cons.1 hx with rfl | hx
    · have := get_in h.val 0 a (by decide)
      exact ⟨this.1, by have := this.2; unfold getC; omega⟩
    · exact dump_by h n _ x hx
def row8 (l : List Cel) (a : Int) : List Int := Ce.dumpC (getC l) a 8
def lenI (l : List Cel) (a : Int) : Nat := if Dc.isN (row8 l a) then Dc.lenN (row8 l a) else 1
def byI (l : List Cel) (a : Int) : List Int := (row8 l a).take (lenI l a)
def txI (l : List Cel) (a : Int) : List UInt8 := if Dc.isN (row8 l a) then Tx.showT (Dc.Nx (row8 l a)).1 (Dc.Nx (row8 l a)).2.1 (Dc.Nx (row8 l a)).2.2.1 (Dc.Nx (row8 l a)).2.2.2.1 else [46, 46]
def stepI (l : List Cel) (a : Int) : Int := (a + lenI l a) % 65536
theorem lenI_in {l : List Cel} (h : Okl l) (a : Int) : 1 ≤ lenI l a ∧ lenI l a ≤ 8 := by
  unfold lenI
  split
  · rename_i hn
    have := Dc.lenN_of (dump_by h 8 a) hn
    have h8 : (row8 l a).length = 8 := Ce.dumpC_len _ _ _
    have h9 : (Ce.dumpC (getC l) a 8).length = 8 := Ce.dumpC_len _ _ _
    exact ⟨this.2.1, by have := this.2.2; unfold row8; omega⟩
  · omega
theorem byI_len {l : List Cel} (h : Okl l) (a : Int) : (byI l a).length = lenI l a := by
  have := lenI_in h a
  have h8 : (row8 l a).length = 8 := Ce.dumpC_len _ _ _
  rw [byI, List.length_take, h8]; omega
theorem byI_by {l : List Cel} (h : Okl l) (a : Int) : Dc.By (byI l a) := fun x hx => dump_by h 8 a x (List.mem_of_mem_take hx)
theorem txI_len {l : List Cel} (h : Okl l) (a : Int) : (txI l a).length ≤ 300 := by
  unfold txI
  split
  · exact show_len _ _ _ _ (Nx_in (dump_by h 8 a)).1
  · simp
theorem go_at {l : List Cel} (h : Okl l) (a : Int) : ∃ p c d i n e ok, listing_at_49.f 1000 l a = some (a, byI l a, p, c, d, i, n, e, ok) ∧ listing_one_text_38.f 1000 a (byI l a) p c d i n e ok = some (ba (txI l a)) := by
  have hb := dump_by h 8 a
  have hl8 : (row8 l a).length = 8 := Ce.dumpC_len _ _ _
  have hd : cells_Dump_39.f 1000 l a 8 = some (row8 l a) := Ce.goDump (by have := h.len; omega) a (by decide)
  have hn : decode_Next_77.f 1000 (row8 l a) = some (Dc.Nx (row8 l a)) := Dc.dec_next _ hb (by rw [hl8]; decide)
  unfold listing_at_49.f
  rw [hd, Option.bind_some, hn, Option.bind_some]
  have hin : inP (Dc.Nx (row8 l a)) := Nx_in hb
  cases hok : Dc.isN (row8 l a) with
  | false =>
    have e1 : (Dc.Nx (row8 l a)).2.2.2.2.2.2 = false := hok
    have e2 : lenI l a = 1 := by unfold lenI; rw [hok]; rfl
    have e3 : byI l a = cutL (row8 l a) 0 1 := by rw [byI, e2]; exact (cutL_nat _ 1).symm
    refine ⟨0, 0, 0, 0, 0, 0, false, ?_, ?_⟩
    · rw [e1, Bool.not_false, cond_t, cutR_of (by decide) (by decide) (by rw [hl8]; decide), cond_t, e3]
    · unfold listing_one_text_38.f txI
      rw [hok]; rfl
  | true =>
    have e1 : (Dc.Nx (row8 l a)).2.2.2.2.2.2 = true := hok
    have e0 := Dc.lenN_of hb hok
    have e2 : lenI l a = Dc.lenN (row8 l a) := by unfold lenI; rw [hok]; rfl
    have e0' : ((Dc.lenN (row8 l a) : Nat) : Int) = (Dc.Nx (row8 l a)).2.2.2.2.1 := e0.1
    have e4 := e0.2.2
    have e3 : byI l a = cutL (row8 l a) 0 (Dc.Nx (row8 l a)).2.2.2.2.1 := by rw [byI, e2, ← e0']; exact (cutL_nat _ _).symm
    have e5 : Dc.lenN (row8 l a) ≤ (row8 l a).length := e4
    refine ⟨(Dc.Nx (row8 l a)).1, (Dc.Nx (row8 l a)).2.1, (Dc.Nx (row8 l a)).2.2.1, (Dc.Nx (row8 l a)).2.2.2.1, (Dc.Nx (row8 l a)).2.2.2.2.1, (Dc.Nx (row8 l a)).2.2.2.2.2.1, true, ?_, ?_⟩
    · rw [e1, Bool.not_true, cond_f, cutR_of (by decide) (by omega) (by omega), cond_t, e3]
    · unfold listing_one_text_38.f txI
      rw [hok, Bool.not_true, cond_f, Tx.goShow hin.1 hin.2.1 hin.2.2, Option.bind_some]; rfl
def hx2 (v : Int) : List UInt8 := [dg (v / 16).toNat, dg (v % 16).toNat]
def digOk : Bool := (List.range 256).all fun v => match (text_Hex_37.f 1000 (IntKind.wrap .i64 (v : Int)) 2).bind fun t => strings_TrimSuffix_55.f 1000 t (⟨#[104]⟩ : ByteArray) with | some s => s.data.toList == hx2 v | none => false
theorem digs : digOk = true := by kernel_rfl
theorem dig_at {v : Int} (h : 0 ≤ v ∧ v ≤ 255) : ∃ t, text_Hex_37.f 1000 (IntKind.wrap .i64 v) 2 = some t ∧ strings_TrimSuffix_55.f 1000 t (⟨#[104]⟩ : ByteArray) = some (ba (hx2 v)) := by
  have := List.all_eq_true.1 digs v.toNat (List.mem_range.2 (by omega))
  rw [show ((v.toNat : Nat) : Int) = v by omega] at this
  cases ht : text_Hex_37.f 1000 (IntKind.wrap .i64 v) 2 with
  | none => rw [ht] at this; cases this
  | some t =>
    rw [ht] at this
    refine ⟨t, rfl, ?_⟩
    rw [Option.bind_some] at this
    cases hs : strings_TrimSuffix_55.f 1000 t (⟨#[104]⟩ : ByteArray) with
    | none => rw [hs] at this; cases this
    | some s =>
      rw [hs] at this
      have h2 : s.data.toList = hx2 v := by simpa using this
      rw [← h2, ba_of]
def digT (b : List Int) : List UInt8 := b.flatMap hx2
theorem digT_len : ∀ b : List Int, (digT b).length = 2 * b.length
  | [] => rfl
  | x :: b => by rw [digT, List.flatMap_cons, List.length_append]; have := digT_len b; unfold digT at this; rw [this]; simp [hx2]; omega
theorem dig_loop {b : List Int} (hb : Dc.By b) (hl : b.length < 900) : ∀ (m k i : Nat) (t : List UInt8), i ≤ b.length → b.length - i = m → m < k → t.length ≤ 2 * i → listing_digits_35.l0 1000 b k t (i : Int) = some (t ++ digT (b.drop i))
  | m, 0, i, t, _, _, hk, _ => by omega
  | m, k + 1, i, t, h1, h2, hk, h3 => by
    rw [listing_digits_35.l0.eq_2]
    by_cases hi : i < b.length
    · obtain ⟨s, hs1, hs2⟩ := dig_at (hb _ (List.getElem_mem hi))
      rw [← rdD_nat b hi] at hs1 hs2
      rw [decide_eq_true (by omega), cond_t, inR_nat hi, cond_t, hs1, Option.bind_some, hs2, Option.bind_some, ba_size, ba_list, wrap_i64 (x := (i : Int) + 1) (by omega) (by omega)]
      rw [show bldR t.length (hx2 (rdD b (i : Int))).length = true by simp [bldR, hx2]; omega, cond_t]
      have ih := dig_loop hb hl (m - 1) k (i + 1) (t ++ hx2 (rdD b (i : Int))) (by omega) (by omega) (by omega) (by simp [hx2]; omega)
      refine ih.trans ?_
      rw [Ce.rd_drop hi, List.append_assoc]; rfl
    · rw [decide_eq_false (by omega), cond_f, List.drop_eq_nil_of_le (by omega)]; simp [digT]
theorem go_dig {b : List Int} (hb : Dc.By b) (hl : b.length < 900) : listing_digits_35.f 1000 b = some (ba (digT b)) := by
  unfold listing_digits_35.f
  have := dig_loop hb hl _ 1000 0 [] (by omega) rfl (by omega) (by simp)
  rw [show ((0 : Nat) : Int) = 0 from rfl, List.drop_zero, List.nil_append] at this
  rw [this]; rfl
theorem repeat_one (c : UInt8) : ∀ n, Lib.repeatL [c] n = List.replicate n c
  | 0 => rfl
  | n + 1 => by rw [Lib.repeatL, repeat_one c n]; rfl
def lineI (l : List Cel) (a : Int) : List UInt8 := Tx.hexT a 4 ++ [58, 32] ++ (digT (byI l a) ++ List.replicate (8 - (digT (byI l a)).length) 32) ++ [32] ++ txI l a
def linesI (l : List Cel) : Int → Nat → List ByteArray
  | _, 0 => []
  | a, n + 1 => ba (lineI l a) :: linesI l (stepI l a) n
def nextI (l : List Cel) : Int → Nat → Int
  | a, 0 => a
  | a, n + 1 => nextI l (stepI l a) n
theorem linesI_len (l : List Cel) : ∀ (n : Nat) (a : Int), (linesI l a n).length = n
  | 0, _ => rfl
  | n + 1, a => by rw [linesI, List.length_cons, linesI_len l n]
theorem step_in (l : List Cel) (a : Int) : 0 ≤ stepI l a ∧ stepI l a < 65536 := by unfold stepI; omega
theorem go_step {l : List Cel} (h : Okl l) (a : Int) (ha : 0 ≤ a ∧ a < 65536) (b : List Int) (hb : b.length = lenI l a) (p c d i n e : Int) (ok : Bool) : listing_one_next_34.f 1000 a b p c d i n e ok = some (stepI l a) := by
  have := lenI_in h a
  unfold listing_one_next_34.f stepI
  rw [hb, IntKind.wrap_u16, IntKind.wrap_u16]
  congr 1; omega
theorem go_next_loop {l : List Cel} (h : Okl l) {n p1 p2 : Int} (hn : n = (if 200 < p2 then 200 else p2)) (hn2 : n ≤ 200) : ∀ (m k i : Nat) (a : Int), (n - i).toNat = m → m < k → i ≤ 900 → (0 ≤ a ∧ a < 65536) → listing_Next_13.l0 1000 l p1 p2 k a a (i : Int) = some (nextI l a m, nextI l a m)
  | m, 0, i, a, _, hk, _, _ => by omega
  | m, k + 1, i, a, h2, hk, h3, ha => by
    rw [listing_Next_13.l0.eq_2, ← hn]
    by_cases hi : (i : Int) < n
    · obtain ⟨m, rfl⟩ : ∃ q, m = q + 1 := ⟨m - 1, by omega⟩
      obtain ⟨p, c, d, im, nn, e, ok, h4, _⟩ := go_at h a
      rw [decide_eq_true hi, cond_t, h4, Option.bind_some, go_step h a ha _ (byI_len h a), Option.bind_some, Option.bind_some, wrap_i64 (by omega) (by omega)]
      exact go_next_loop h hn hn2 m k (i + 1) _ (by omega) (by omega) (by omega) (step_in l a)
    · obtain rfl : m = 0 := by omega
      rw [decide_eq_false hi, cond_f]; rfl
theorem goNext {l : List Cel} (h : Okl l) {a : Int} (ha : 0 ≤ a ∧ a < 65536) (p2 : Int) : listing_Next_13.f 1000 l a p2 = some (nextI l a (min 200 p2).toNat) := by
  unfold listing_Next_13.f
  have := go_next_loop h (p1 := a) (p2 := p2) (n := if 200 < p2 then 200 else p2) rfl (by split <;> omega) _ 1000 0 a rfl (by split <;> omega) (by omega) ha
  rw [show ((0 : Nat) : Int) = 0 from rfl] at this
  rw [this, Option.bind_some, show ((if 200 < p2 then 200 else p2) - 0).toNat = (min 200 p2).toNat by split <;> omega]
theorem pad_eq (s : Nat) (hs : s ≤ 100) : (if (IntKind.wrap .i64 (8 - (s : Int))) > 0 then (IntKind.wrap .i64 (8 - (s : Int))) else 0) = ((8 - s : Nat) : Int) := by
  rw [wrap_i64 (by omega) (by omega)]; split <;> omega
theorem go_lines_loop {l : List Cel} (h : Okl l) {n p1 p2 : Int} (hn : n = (if 200 < p2 then 200 else p2)) (hn2 : n ≤ 200) : ∀ (m k i : Nat) (out : List ByteArray) (a : Int), (n - i).toNat = m → m < k → i ≤ 900 → out.length ≤ i → (0 ≤ a ∧ a < 65536) →
    listing_Lines_14.l0 1000 l p1 p2 k out a (i : Int) = some (out ++ linesI l a m, nextI l a m)
  | m, 0, i, out, a, _, hk, _, _, _ => by omega
  | m, k + 1, i, out, a, h2, hk, h3, h4, ha => by
    rw [listing_Lines_14.l0.eq_2, ← hn]
    by_cases hi : (i : Int) < n
    · obtain ⟨m, rfl⟩ : ∃ q, m = q + 1 := ⟨m - 1, by omega⟩
      obtain ⟨p, c, d, im, nn, e, ok, h5, h6⟩ := go_at h a
      have hl := lenI_in h a
      have hbl := byI_len h a
      have hdl := digT_len (byI l a)
      have htl := txI_len h a
      have hxl := Tx.hexT_len a 4
      rw [decide_eq_true hi, cond_t, h5, Option.bind_some]
      show ((listing_digits_35.f 1000 (byI l a)).bind _) = _
      rw [go_dig (byI_by h a) (by omega), Option.bind_some, ba_size, pad_eq _ (by omega)]
      have hrep : strings_Repeat_36.f 1000 (⟨#[32]⟩ : ByteArray) (((8 - (digT (byI l a)).length : Nat) : Int)) = some (ba (List.replicate (8 - (digT (byI l a)).length) 32)) := by
        unfold strings_Repeat_36.f
        rw [show repR (ByteArray.size (⟨#[32]⟩ : ByteArray)) ((8 - (digT (byI l a)).length : Nat) : Int) = true by
          unfold repR; rw [decide_eq_true (by omega), Bool.true_and, Int.toNat_natCast, show ByteArray.size (⟨#[32]⟩ : ByteArray) = 1 from rfl, Nat.ble_eq_true_of_le (by omega), Nat.ble_eq_true_of_le (by omega)]; rfl, cond_t, Int.toNat_natCast]
        show some (ba (Lib.repeatL [32] _)) = _
        rw [repeat_one]
      rw [hrep, Option.bind_some, ba_size, cat_of (by rw [List.length_replicate]; omega), cond_t]
      show ((text_Hex_37.f 1000 (IntKind.wrap .i64 a) 4).bind _) = _
      rw [wrap_i64 (x := a) (by omega) (by omega), Tx.goHex (show Tx.i64 a by unfold Tx.i64; omega), Option.bind_some]
      rw [show (⟨#[58, 32]⟩ : ByteArray) = ba [58, 32] from rfl, show (⟨#[32]⟩ : ByteArray) = ba [32] from rfl]
      simp only [ba_app, ba_size]
      rw [cat_of (by simp only [List.length_cons, List.length_nil]; omega), cond_t, cat_of (by simp only [List.length_append, List.length_replicate, List.length_cons, List.length_nil]; omega), cond_t, cat_of (by simp only [List.length_append, List.length_replicate, List.length_cons, List.length_nil]; omega), cond_t]
      show ((listing_one_text_38.f 1000 a (byI l a) p c d im nn e ok).bind _) = _
      rw [h6, Option.bind_some]
      simp only [ba_app, ba_size]
      rw [cat_of (by simp only [List.length_append, List.length_replicate, List.length_cons, List.length_nil]; omega), cond_t, mayBe_of (by simp; omega) (by simp; omega), cond_t]
      show ((listing_one_next_34.f 1000 a (byI l a) p c d im nn e ok).bind _) = _
      rw [go_step h a ha _ hbl, Option.bind_some, wrap_i64 (by omega) (by omega)]
      have ih := go_lines_loop h (p1 := p1) hn hn2 m k (i + 1) (out ++ [ba (lineI l a)]) (stepI l a) (by omega) (by omega) (by omega) (by simp; omega) (step_in l a)
      refine Eq.trans ?_ (ih.trans ?_)
      · rfl
      · rw [List.append_assoc]; rfl
    · obtain rfl : m = 0 := by omega
      rw [decide_eq_false hi, cond_f, linesI, List.append_nil]; rfl
theorem goLines {l : List Cel} (h : Okl l) {a : Int} (ha : 0 ≤ a ∧ a < 65536) (p2 : Int) : listing_Lines_14.f 1000 l a p2 = some (linesI l a (min 200 p2).toNat) := by
  unfold listing_Lines_14.f
  have := go_lines_loop h (p1 := a) (p2 := p2) (n := if 200 < p2 then 200 else p2) rfl (by split <;> omega) _ 1000 0 [] a rfl (by split <;> omega) (by omega) (by simp) ha
  rw [show ((0 : Nat) : Int) = 0 from rfl, List.nil_append] at this
  rw [this, Option.bind_some, show ((if 200 < p2 then 200 else p2) - 0).toNat = (min 200 p2).toNat by split <;> omega]
end Go.Proofs.YtbcepghanbkncaaGreatDoor.LiL.St
