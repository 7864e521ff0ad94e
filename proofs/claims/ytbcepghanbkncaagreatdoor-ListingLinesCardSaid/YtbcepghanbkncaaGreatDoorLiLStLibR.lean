/- Lines of a listing, of the reference. -/
import Derived.Test.YtbcepghanbkncaaGreatDoorLiLStLibC
set_option linter.unusedVariables false
set_option linter.unusedSimpArgs false
namespace Go.Proofs.YtbcepghanbkncaaGreatDoor.LiL.St
open Go.RowKit Go.Eng Go.Proofs.YtbcepghanbkncaaGreatDoor.LiL
theorem ref_many (p2 : Int) : charabancref34_many_32.f 1000 p2 = some (((min 200 p2).toNat : Nat) : Int) := by
  unfold charabancref34_many_32.f
  congr 1
  split <;> split <;> omega
theorem ref_at {l : List Cel} (h : Okl l) {a : Int} (ha : 0 ≤ a ∧ a < 65536) : ∃ p c d i n e ok, charabancref34_at_33.f 1000 l a = some (p, c, d, i, n, e, byI l a, ok) ∧
    (ok = true → charabancref09_Show_42.f 1000 p c d i n e = some (ba (txI l a))) ∧ (ok = false → txI l a = [46, 46]) := by
  have hb : Dc.By (row8 l a) := dump_by h 8 a
  have hl8 : (row8 l a).length = 8 := Ce.dumpC_len _ _ _
  have hd : charabancref14_Dump_22.f 1000 l a 8 = some (row8 l a) := Ce.refDump (by have := h.len; omega) ha (by decide)
  have hn : charabancref08_Next_53.f 1000 (row8 l a) = some (Dc.Nx (row8 l a)) := Dc.ref_next _ hb (by rw [hl8]; decide)
  unfold charabancref34_at_33.f
  rw [hd, Option.bind_some, hn, Option.bind_some]
  have hin : inP (Dc.Nx (row8 l a)) := Nx_in hb
  cases hok : Dc.isN (row8 l a) with
  | false =>
    have e1 : (Dc.Nx (row8 l a)).2.2.2.2.2.2 = false := hok
    have e2 : lenI l a = 1 := by unfold lenI; rw [hok]; rfl
    have e3 : byI l a = cutL (row8 l a) 0 1 := by rw [byI, e2]; exact (cutL_nat _ 1).symm
    refine ⟨0, 0, 0, 0, 0, 0, false, ?_, (fun h => by cases h), fun _ => ?_⟩
    · rw [e1, Bool.not_false, cond_t, cutR_of (by decide) (by decide) (by rw [hl8]; decide), cond_t, e3]
    · unfold txI; rw [hok]; rfl
  | true =>
    have e1 : (Dc.Nx (row8 l a)).2.2.2.2.2.2 = true := hok
    have e0 := Dc.lenN_of hb hok
    have e2 : lenI l a = Dc.lenN (row8 l a) := by unfold lenI; rw [hok]; rfl
    have e0' : ((Dc.lenN (row8 l a) : Nat) : Int) = (Dc.Nx (row8 l a)).2.2.2.2.1 := e0.1
    have e5 := e0.2.2
    have e3 : byI l a = cutL (row8 l a) 0 (Dc.Nx (row8 l a)).2.2.2.2.1 := by rw [byI, e2, ← e0']; exact (cutL_nat _ _).symm
    refine ⟨(Dc.Nx (row8 l a)).1, (Dc.Nx (row8 l a)).2.1, (Dc.Nx (row8 l a)).2.2.1, (Dc.Nx (row8 l a)).2.2.2.1, (Dc.Nx (row8 l a)).2.2.2.2.1, (Dc.Nx (row8 l a)).2.2.2.2.2.1, true, ?_, fun _ => ?_, (fun h => by cases h)⟩
    · rw [e1, Bool.not_true, cond_f, cutR_of (by decide) (by omega) (by omega), cond_t, e3]
    · unfold txI
      rw [hok, Tx.refShow hin.1 hin.2.1 hin.2.2]; rfl
def hexS : ByteArray := ⟨#[48, 49, 50, 51, 52, 53, 54, 55, 56, 57, 97, 98, 99, 100, 101, 102]⟩
def rdigOk : Bool := (List.range 256).all fun v => cutR (IntKind.wrap .u8 (Int.tdiv (v : Int) 16)) (IntKind.wrap .u8 ((IntKind.wrap .u8 (Int.tdiv (v : Int) 16)) + 1)) hexS.size && cutR (Int.tmod (v : Int) 16) (IntKind.wrap .u8 ((Int.tmod (v : Int) 16) + 1)) hexS.size &&
  ((strCut hexS (IntKind.wrap .u8 (Int.tdiv (v : Int) 16)) (IntKind.wrap .u8 ((IntKind.wrap .u8 (Int.tdiv (v : Int) 16)) + 1))).data.toList == [dg ((v : Int) / 16).toNat]) && ((strCut hexS (Int.tmod (v : Int) 16) (IntKind.wrap .u8 ((Int.tmod (v : Int) 16) + 1))).data.toList == [dg ((v : Int) % 16).toNat])
theorem rdigs : rdigOk = true := by kernel_rfl
theorem rdig_at {v : Int} (h : 0 ≤ v ∧ v ≤ 255) : cutR (IntKind.wrap .u8 (Int.tdiv v 16)) (IntKind.wrap .u8 ((IntKind.wrap .u8 (Int.tdiv v 16)) + 1)) hexS.size = true ∧ cutR (Int.tmod v 16) (IntKind.wrap .u8 ((Int.tmod v 16) + 1)) hexS.size = true ∧
    strCut hexS (IntKind.wrap .u8 (Int.tdiv v 16)) (IntKind.wrap .u8 ((IntKind.wrap .u8 (Int.tdiv v 16)) + 1)) = ba [dg (v / 16).toNat] ∧ strCut hexS (Int.tmod v 16) (IntKind.wrap .u8 ((Int.tmod v 16) + 1)) = ba [dg (v % 16).toNat] := by
  have := List.all_eq_true.1 rdigs v.toNat (List.mem_range.2 (by omega))
  rw [show ((v.toNat : Nat) : Int) = v by omega] at this
  simp only [Bool.and_eq_true, beq_iff_eq] at this
  obtain ⟨⟨⟨h1, h2⟩, h3⟩, h4⟩ := this
  exact ⟨h1, h2, by rw [← h3, ba_of], by rw [← h4, ba_of]⟩
theorem rdig_step (b : List Int) (k : Nat) (t : ByteArray) (i : Int) : charabancref30_Digits_41.l0 1000 b (k + 1) t i = cond (decide (i < (b.length : Int))) (cond (inR i b.length) (cond (cutR (IntKind.wrap .u8 (Int.tdiv (rdD b i) 16)) (IntKind.wrap .u8 ((IntKind.wrap .u8 (Int.tdiv (rdD b i) 16)) + 1)) hexS.size) (cond (mayCat t.size (strCut hexS (IntKind.wrap .u8 (Int.tdiv (rdD b i) 16)) (IntKind.wrap .u8 ((IntKind.wrap .u8 (Int.tdiv (rdD b i) 16)) + 1))).size)
    (cond (cutR (Int.tmod (rdD b i) 16) (IntKind.wrap .u8 ((Int.tmod (rdD b i) 16) + 1)) hexS.size) (cond (mayCat (t ++ (strCut hexS (IntKind.wrap .u8 (Int.tdiv (rdD b i) 16)) (IntKind.wrap .u8 ((IntKind.wrap .u8 (Int.tdiv (rdD b i) 16)) + 1)))).size (strCut hexS (Int.tmod (rdD b i) 16) (IntKind.wrap .u8 ((Int.tmod (rdD b i) 16) + 1))).size)
      (charabancref30_Digits_41.l0 1000 b k ((t ++ (strCut hexS (IntKind.wrap .u8 (Int.tdiv (rdD b i) 16)) (IntKind.wrap .u8 ((IntKind.wrap .u8 (Int.tdiv (rdD b i) 16)) + 1)))) ++ (strCut hexS (Int.tmod (rdD b i) 16) (IntKind.wrap .u8 ((Int.tmod (rdD b i) 16) + 1)))) (IntKind.wrap .i64 (i + 1))) none) none) none) none) none) (some t) := rfl
theorem rdig_loop {b : List Int} (hb : Dc.By b) (hl : b.length < 900) : ∀ (m k i : Nat) (t : List UInt8), i ≤ b.length → b.length - i = m → m < k → t.length ≤ 2 * i → charabancref30_Digits_41.l0 1000 b k (ba t) (i : Int) = some (ba (t ++ digT (b.drop i)))
  | m, 0, i, t, _, _, hk, _ => by omega
  | m, k + 1, i, t, h1, h2, hk, h3 => by
    rw [rdig_step]
    by_cases hi : i < b.length
    · have hx := hb _ (List.getElem_mem hi)
      rw [← rdD_nat b hi] at hx
      obtain ⟨g1, g2, g3, g4⟩ := rdig_at hx
      rw [decide_eq_true (by omega), cond_t, inR_nat hi, cond_t, g1, cond_t, g2, cond_t, g3, g4, wrap_i64 (x := (i : Int) + 1) (by omega) (by omega)]
      simp only [ba_app, ba_size]
      rw [cat_of (by simp; omega), cond_t, cat_of (by simp; omega), cond_t]
      have ih := rdig_loop hb hl (m - 1) k (i + 1) (t ++ [dg (rdD b (i : Int) / 16).toNat] ++ [dg (rdD b (i : Int) % 16).toNat]) (by omega) (by omega) (by omega) (by simp; omega)
      refine ih.trans ?_
      rw [Ce.rd_drop hi, List.append_assoc, List.append_assoc]; rfl
    · rw [decide_eq_false (by omega), cond_f, List.drop_eq_nil_of_le (by omega)]; simp [digT]
theorem ref_dig {b : List Int} (hb : Dc.By b) (hl : b.length < 900) : charabancref30_Digits_41.f 1000 b = some (ba (digT b)) := by
  unfold charabancref30_Digits_41.f
  have := rdig_loop hb hl _ 1000 0 [] (by omega) rfl (by omega) (by simp)
  rw [show ((0 : Nat) : Int) = 0 from rfl, List.drop_zero, List.nil_append] at this
  rw [show (⟨#[]⟩ : ByteArray) = ba [] from rfl, this]; rfl
theorem pad_loop {p0 : List (Int × Int)} {p1 p2 t42 : Int} {t45 : List ByteArray} {t46 t48 t49 t50 t51 t52 t53 : Int} {t56 : List Int} {t57 : Bool} : ∀ (m k : Nat) (t : List UInt8), 8 - t.length = m → m < k → t.length ≤ 900 →
    charabancref34_Lines_17.l0 1000 p0 p1 p2 t42 t45 t46 t48 t49 t50 t51 t52 t53 t56 t57 k (ba t) = some (ba (t ++ List.replicate m 32))
  | m, 0, t, _, hk, _ => by omega
  | m, k + 1, t, h1, hk, h2 => by
    rw [charabancref34_Lines_17.l0.eq_2, ba_size]
    by_cases ht : t.length < 8
    · obtain ⟨m, rfl⟩ : ∃ q, m = q + 1 := ⟨m - 1, by omega⟩
      rw [decide_eq_true (by omega), cond_t, show (⟨#[32]⟩ : ByteArray) = ba [32] from rfl, ba_size, cat_of (by simp; omega), cond_t, ba_app]
      refine (pad_loop m k (t ++ [32]) (by simp; omega) (by omega) (by simp; omega)).trans ?_
      rw [List.append_assoc, List.replicate_succ]; rfl
    · obtain rfl : m = 0 := by omega
      rw [decide_eq_false (by omega), cond_f, List.replicate_zero, List.append_nil]
theorem ref_step {l : List Cel} (h : Okl l) {a : Int} (ha : 0 ≤ a ∧ a < 65536) : IntKind.wrap .u16 (a + (IntKind.wrap .u16 ((byI l a).length : Int))) = stepI l a := by
  have := lenI_in h a
  unfold stepI
  rw [byI_len h, IntKind.wrap_u16, IntKind.wrap_u16]; omega
theorem ref_next_loop {l : List Cel} (h : Okl l) {p1 p2 : Int} : ∀ (m k i : Nat) (a : Int), (min 200 p2).toNat - i = m → m < k → i ≤ 900 → (0 ≤ a ∧ a < 65536) → charabancref34_Next_19.l0 1000 l p1 p2 k a (i : Int) = some (nextI l a m)
  | m, 0, i, a, _, hk, _, _ => by omega
  | m, k + 1, i, a, h2, hk, h3, ha => by
    rw [charabancref34_Next_19.l0.eq_2, ref_many, Option.bind_some]
    by_cases hi : i < (min 200 p2).toNat
    · obtain ⟨m, rfl⟩ : ∃ q, m = q + 1 := ⟨m - 1, by omega⟩
      obtain ⟨p, c, d, im, nn, e, ok, h4, _⟩ := ref_at h ha
      rw [decide_eq_true (by omega), cond_t, h4, Option.bind_some]
      show charabancref34_Next_19.l0 1000 l p1 p2 k (IntKind.wrap .u16 (a + (IntKind.wrap .u16 ((byI l a).length : Int)))) _ = _
      rw [ref_step h ha, wrap_i64 (by omega) (by omega)]
      exact ref_next_loop h m k (i + 1) _ (by omega) (by omega) (by omega) (step_in l a)
    · obtain rfl : m = 0 := by omega
      rw [decide_eq_false (by omega), cond_f]; rfl
theorem refNext {l : List Cel} (h : Okl l) {a : Int} (ha : 0 ≤ a ∧ a < 65536) (p2 : Int) : charabancref34_Next_19.f 1000 l a p2 = some (nextI l a (min 200 p2).toNat) := by
  unfold charabancref34_Next_19.f
  have := ref_next_loop h (p1 := a) (p2 := p2) _ 1000 0 a rfl (by omega) (by omega) ha
  rw [show ((0 : Nat) : Int) = 0 from rfl, Nat.sub_zero] at this
  rw [this]; rfl
theorem ref_lines_loop {l : List Cel} (h : Okl l) {p1 p2 : Int} : ∀ (m k i : Nat) (out : List ByteArray) (a : Int), (min 200 p2).toNat - i = m → m < k → i ≤ 900 → out.length ≤ i → (0 ≤ a ∧ a < 65536) →
    charabancref34_Lines_17.l1 1000 l p1 p2 k a out (i : Int) = some (out ++ linesI l a m)
  | m, 0, i, out, a, _, hk, _, _, _ => by omega
  | m, k + 1, i, out, a, h2, hk, h3, h4, ha => by
    rw [charabancref34_Lines_17.l1.eq_2, ref_many, Option.bind_some]
    by_cases hi : i < (min 200 p2).toNat
    · obtain ⟨m, rfl⟩ : ∃ q, m = q + 1 := ⟨m - 1, by omega⟩
      obtain ⟨p, c, d, im, nn, e, ok, h5, h6, h7⟩ := ref_at h ha
      have hl := lenI_in h a
      have hbl := byI_len h a
      have hdl := digT_len (byI l a)
      have htl := txI_len h a
      have hxl := Tx.hexT_len a 4
      rw [decide_eq_true (by omega), cond_t, h5, Option.bind_some]
      show ((charabancref30_Digits_41.f 1000 (byI l a)).bind _) = _
      rw [ref_dig (byI_by h a) (by omega), Option.bind_some]
      rw [pad_loop _ 1000 (digT (byI l a)) rfl (by omega) (by omega), Option.bind_some]
      have hd : ∀ γ (J : ByteArray → Option γ), cond ok ((charabancref09_Show_42.f 1000 p c d im nn e).bind fun t72 => J t72) (J (⟨#[46, 46]⟩ : ByteArray)) = J (ba (txI l a)) := by
        intro γ J
        cases ok with
        | true => rw [cond_t, h6 rfl]; rfl
        | false => rw [cond_f, h7 rfl]; rfl
      simp only [Let]
      refine (hd _ _).trans ?_
      show ((charabancref09_Hex_43.f 1000 (IntKind.wrap .i64 a) 4).bind _) = _
      rw [wrap_i64 (x := a) (by omega) (by omega), Tx.refHex (show Tx.i64 a by unfold Tx.i64; omega), Option.bind_some]
      rw [show (⟨#[58, 32]⟩ : ByteArray) = ba [58, 32] from rfl, show (⟨#[32]⟩ : ByteArray) = ba [32] from rfl]
      simp only [ba_app, ba_size]
      rw [cat_of (by simp only [List.length_cons, List.length_nil]; omega), cond_t, cat_of (by simp only [List.length_append, List.length_replicate, List.length_cons, List.length_nil]; omega), cond_t, cat_of (by simp only [List.length_append, List.length_replicate, List.length_cons, List.length_nil]; omega), cond_t]
      rw [cat_of (by simp only [List.length_append, List.length_replicate, List.length_cons, List.length_nil]; omega), cond_t, mayBe_of (by simp; omega) (by simp; omega), cond_t]
      show charabancref34_Lines_17.l1 1000 l p1 p2 k (IntKind.wrap .u16 (a + (IntKind.wrap .u16 ((byI l a).length : Int)))) _ _ = _
      rw [ref_step h ha, wrap_i64 (by omega) (by omega)]
      have ih := ref_lines_loop h (p1 := p1) (p2 := p2) m k (i + 1) (out ++ [ba (lineI l a)]) (stepI l a) (by omega) (by omega) (by omega) (by simp; omega) (step_in l a)
      refine Eq.trans ?_ (ih.trans ?_)
      · rfl
      · rw [List.append_assoc]; rfl
    · obtain rfl : m = 0 := by omega
      rw [decide_eq_false (by omega), cond_f, linesI, List.append_nil]
theorem refLines {l : List Cel} (h : Okl l) {a : Int} (ha : 0 ≤ a ∧ a < 65536) (p2 : Int) : charabancref34_Lines_17.f 1000 l a p2 = some (linesI l a (min 200 p2).toNat) := by
  unfold charabancref34_Lines_17.f
  have := ref_lines_loop h (p1 := a) (p2 := p2) _ 1000 0 [] a rfl (by omega) (by omega) (by simp) ha
  rw [show ((0 : Nat) : Int) = 0 from rfl, List.nil_append, Nat.sub_zero] at this
  rw [this]; rfl
theorem cut_one {b : List Int} {i : Nat} (hi : i < b.length) : cutL b (i : Int) ((i : Int) + 1) = [rdD b (i : Int)] := by
  unfold cutL
  rw [show ((i : Int) + 1).toNat = i + 1 by omega, Int.toNat_natCast, rdD_nat b hi, List.drop_take, List.drop_eq_getElem_cons hi, show i + 1 - i = 1 by omega]; rfl
theorem ref_row_loop {p0 : List (Int × Int)} {p1 p2 t29 t33 : Int} {t32 : List ByteArray} {b : List Int} (hb : Dc.By b) (hl : b.length = 16) : ∀ (m k i : Nat) (t u : List UInt8), i ≤ 16 → 16 - i = m → m < k → t.length ≤ 100 + 3 * i → u.length ≤ i →
    charabancref34_Rows_18.l0 1000 p0 p1 p2 t29 t32 t33 b k (ba t) (ba u) (i : Int) = some (ba (t ++ hexesT (b.drop i)), ba (u ++ plainT (b.drop i)))
  | m, 0, i, t, u, _, _, hk, _, _ => by omega
  | m, k + 1, i, t, u, h1, h2, hk, h3, h4 => by
    rw [charabancref34_Rows_18.l0.eq_2]
    simp only [Let]
    by_cases hi : i < 16
    · have hib : i < b.length := by omega
      have hx := hb _ (List.getElem_mem hib)
      rw [← rdD_nat b hib] at hx
      have ew : IntKind.wrap .i64 ((i : Int) + 1) = (i : Int) + 1 := wrap_i64 (by omega) (by omega)
      have ih := ref_row_loop (p0 := p0) (p1 := p1) (p2 := p2) (t29 := t29) (t33 := t33) (t32 := t32) hb hl (m - 1) k (i + 1) (t ++ [32] ++ hx2 (rdD b (i : Int))) (u ++ [plB (rdD b (i : Int))]) (by omega) (by omega) (by omega) (by simp [hx2]; omega) (by simp; omega)
      rw [show (((i + 1 : Nat) : Nat) : Int) = (i : Int) + 1 by omega] at ih
      have hfin : (some (ba (t ++ [32] ++ hx2 (rdD b (i : Int)) ++ hexesT (b.drop (i + 1))), ba (u ++ [plB (rdD b (i : Int))] ++ plainT (b.drop (i + 1)))) : Option (ByteArray × ByteArray)) = some (ba (t ++ hexesT (b.drop i)), ba (u ++ plainT (b.drop i))) := by
        rw [Ce.rd_drop hib, List.append_assoc, List.append_assoc, List.append_assoc]; rfl
      have ed : digT [rdD b (i : Int)] = hx2 (rdD b (i : Int)) := by simp [digT]
      have e32 : (⟨#[32]⟩ : ByteArray) = ba [32] := rfl
      have e46 : (⟨#[46]⟩ : ByteArray) = ba [46] := rfl
      have c1 : mayCat (ba t).size (ba [32]).size = true := by rw [ba_size, ba_size]; exact cat_of (by simp; omega)
      have c2 : mayCat (ba (t ++ [32])).size (ba (hx2 (rdD b (i : Int)))).size = true := by rw [ba_size, ba_size]; exact cat_of (by simp [hx2]; omega)
      have c3 : ∀ y : UInt8, mayCat (ba u).size (ba [y]).size = true := fun y => by rw [ba_size, ba_size]; exact cat_of (by simp; omega)
      rw [decide_eq_true (show (i : Int) < 16 by omega), cond_t, e32, c1, cond_t, ew, cutR_of (by omega) (by omega) (by omega), cond_t, cut_one hib, ref_dig (b := [rdD b (i : Int)]) (by intro x hx'; rw [List.mem_singleton.1 hx']; exact hx) (by simp), Option.bind_some, ed, ba_app, c2, cond_t, inR_nat hib, cond_t, ba_app, strOf_ba, List.map_cons, List.map_nil, e46]
      rw [c3, c3, ba_app, ba_app, cond_t, cond_t]
      by_cases g1 : rdD b (i : Int) ≥ 32
      · rw [decide_eq_true g1, cond_t]
        by_cases g2 : rdD b (i : Int) ≤ 126
        · have : plB (rdD b (i : Int)) = UInt8.ofNat (rdD b (i : Int)).toNat := by unfold plB plainR; rw [if_neg (by omega)]
          rw [this] at ih hfin
          rw [decide_eq_true g2, cond_t]
          exact ih.trans hfin
        · have : plB (rdD b (i : Int)) = 46 := by unfold plB plainR; rw [if_pos (by omega)]; rfl
          rw [this] at ih hfin
          rw [decide_eq_false g2, cond_f]
          exact ih.trans hfin
      · have : plB (rdD b (i : Int)) = 46 := by unfold plB plainR; rw [if_pos (by omega)]; rfl
        rw [this] at ih hfin
        rw [decide_eq_false g1, cond_f, cond_f]
        exact ih.trans hfin
    · rw [decide_eq_false (by omega), cond_f, List.drop_eq_nil_of_le (by omega)]; simp [hexesT, plainT]
theorem ref_rows_loop {l : List Cel} (h : Okl l) {p1 p2 : Int} : ∀ (m k i : Nat) (out : List ByteArray) (a : Int), (min 200 p2).toNat - i = m → m < k → i ≤ 900 → out.length ≤ i → (0 ≤ a ∧ a < 65536) →
    charabancref34_Rows_18.l1 1000 l p1 p2 k a out (i : Int) = some (out ++ rowsI l a m)
  | m, 0, i, out, a, _, hk, _, _, _ => by omega
  | m, k + 1, i, out, a, h2, hk, h3, h4, ha => by
    rw [charabancref34_Rows_18.l1.eq_2, ref_many, Option.bind_some]
    by_cases hi : i < (min 200 p2).toNat
    · obtain ⟨m, rfl⟩ : ∃ q, m = q + 1 := ⟨m - 1, by omega⟩
      have hd : charabancref14_Dump_22.f 1000 l a 16 = some (Ce.dumpC (getC l) a 16) := Ce.refDump (by have := h.len; omega) ha (by decide)
      have hdl : (Ce.dumpC (getC l) a 16).length = 16 := Ce.dumpC_len _ _ _
      have hby := dump_by h 16 a
      have hxl := Tx.hexT_len a 4
      have hsl := hexes_len (Ce.dumpC (getC l) a 16)
      have hpl := plainT_len (Ce.dumpC (getC l) a 16)
      have hr := ref_row_loop (p0 := l) (p1 := p1) (p2 := p2) (t29 := a) (t33 := (i : Int)) (t32 := out) (b := Ce.dumpC (getC l) a 16) hby hdl _ 1000 0 (Tx.hexT a 4 ++ [58]) [] (by omega) rfl (by omega) (by simp; omega) (by simp)
      rw [show ((0 : Nat) : Int) = 0 from rfl, List.drop_zero, List.nil_append] at hr
      rw [decide_eq_true (by omega), cond_t, hd, Option.bind_some, wrap_i64 (x := a) (by omega) (by omega), Tx.refHex (show Tx.i64 a by unfold Tx.i64; omega), Option.bind_some]
      rw [show (⟨#[58]⟩ : ByteArray) = ba [58] from rfl, show (⟨#[32, 32]⟩ : ByteArray) = ba [32, 32] from rfl, show (⟨#[]⟩ : ByteArray) = ba [] from rfl, ba_app, ba_size, ba_size, cat_of (by simp; omega), cond_t, hr, Option.bind_some]
      simp only [ba_app, ba_size]
      rw [cat_of (by simp only [List.length_append, List.length_cons, List.length_nil]; omega), cond_t, cat_of (by simp only [List.length_append, List.length_cons, List.length_nil]; omega), cond_t, mayBe_of (by simp; omega) (by simp; omega), cond_t, wrap_i64 (by omega) (by omega)]
      have ih := ref_rows_loop h (p1 := p1) (p2 := p2) m k (i + 1) (out ++ [ba (rowI l a)]) (IntKind.wrap .u16 (a + 16)) (by omega) (by omega) (by omega) (by simp; omega) (Ce.w16_in _)
      refine Eq.trans ?_ (ih.trans ?_)
      · rfl
      · rw [List.append_assoc]; rfl
    · obtain rfl : m = 0 := by omega
      rw [decide_eq_false (by omega), cond_f, rowsI, List.append_nil]
theorem refRows {l : List Cel} (h : Okl l) {a : Int} (ha : 0 ≤ a ∧ a < 65536) (p2 : Int) : charabancref34_Rows_18.f 1000 l a p2 = some (rowsI l a (min 200 p2).toNat) := by
  unfold charabancref34_Rows_18.f
  have := ref_rows_loop h (p1 := a) (p2 := p2) _ 1000 0 [] a rfl (by omega) (by omega) (by simp) ha
  rw [show ((0 : Nat) : Int) = 0 from rfl, List.nil_append, Nat.sub_zero] at this
  rw [this]; rfl
theorem lines_eq {l : List Cel} (h : Okl l) {a : Int} (ha : 0 ≤ a ∧ a < 65536) (p2 : Int) : ((listing_Lines_14.f 1000 l a p2).bind fun t19 => (charabancref34_Lines_17.f 1000 l a p2).bind fun t28 => (charabancref09_Same_16.f 1000 t19 t28).bind fun t37 => cond t37 ((listing_Rows_15.f 1000 l a p2).bind fun t43 => (charabancref34_Rows_18.f 1000 l a p2).bind fun t52 => (charabancref09_Same_16.f 1000 t43 t52).bind fun t61 => cond t61 ((listing_Next_13.f 1000 l a p2).bind fun t67 => (charabancref34_Next_19.f 1000 l a p2).bind fun t72 => some (t67 == t72)) (some false)) (some false)) = some true := by
  rw [goLines h ha, Option.bind_some, refLines h ha, Option.bind_some, same_self _ (by rw [linesI_len]; omega), Option.bind_some, cond_t, goRows h ha, Option.bind_some, refRows h ha, Option.bind_some, same_self _ (by rw [rowsI_len]; omega), Option.bind_some, cond_t, goNext h ha, Option.bind_some, refNext h ha, Option.bind_some, beq_self_eq_true]
end Go.Proofs.YtbcepghanbkncaaGreatDoor.LiL.St
