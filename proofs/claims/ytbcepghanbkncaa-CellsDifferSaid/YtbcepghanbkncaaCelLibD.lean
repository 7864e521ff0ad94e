/- Cells: put, load, dump, check, and what is the same. -/
import Derived.Test.YtbcepghanbkncaaCelLibC
import Derived.Test.YtbcepghanbkncaaEngText
set_option linter.unusedVariables false
set_option linter.unusedSimpArgs false
namespace Go.Proofs.Ytbcepghanbkncaa.Cel
open Go.RowKit Go.Eng
theorem same_loop {l : List Cel} (hl : l.length < 900) : ∀ (m k i : Nat), i ≤ l.length → l.length - i = m → m < k → charabancref14_Same_10.l0 1000 l l k (i : Int) = some (Lp.go ())
  | m, 0, i, _, _, hk => by omega
  | m, k + 1, i, h1, h2, hk => by
    rw [charabancref14_Same_10.l0.eq_2]
    by_cases hi : i < l.length
    · rw [decide_eq_true (by omega), cond_t, inR_nat hi, cond_t, cond_t, wrap_i64 (by omega) (by omega)]
      have ih := same_loop hl (m - 1) k (i + 1) (by omega) (by omega) (by omega)
      rw [BEq.rfl, BEq.rfl]
      exact ih
    · rw [decide_eq_false (by omega)]; rfl
theorem same {l : List Cel} (hl : l.length < 900) : charabancref14_Same_10.f 1000 l l = some true := by
  unfold charabancref14_Same_10.f
  have := same_loop hl _ 1000 0 (by omega) rfl (by omega)
  rw [show ((0 : Nat) : Int) = 0 from rfl] at this
  rw [this, bne_self_eq_false]; rfl
theorem goGet_loop {l : List Cel} (hl : l.length < 900) (a : Int) : ∀ (i k : Nat), i ≤ l.length → i < k → (cells_Get_13.l0 1000 l a k ((i : Int) - 1)).bind (fun x => Lp.elim x (fun t => some t) (fun _ => some 0)) = some (getC (l.take i) a)
  | i, 0, _, hk => by omega
  | 0, k + 1, _, _ => by rw [cells_Get_13.l0.eq_2, decide_eq_false (by omega)]; rfl
  | i + 1, k + 1, h1, hk => by
    have ih := goGet_loop hl a i k (by omega) (by omega)
    have hi : i < l.length := by omega
    rw [cells_Get_13.l0.eq_2, show ((i + 1 : Nat) : Int) - 1 = (i : Int) by omega, decide_eq_true (by omega), cond_t, inR_nat hi, cond_t, wrap_i64 (by omega) (by omega), List.take_succ_eq_append_getElem hi, getC_snoc, ← rdD_nat l hi]
    by_cases ha : (rdD l (i : Int)).1 = a
    · rw [show ((rdD l (i : Int)).1 == a) = true by simpa using ha, cond_t, if_pos ha]; rfl
    · rw [show ((rdD l (i : Int)).1 == a) = false by simpa using ha, cond_f, if_neg ha]; exact ih
theorem goGet {l : List Cel} (hl : l.length < 900) (a : Int) : cells_Get_13.f 1000 l a = some (getC l a) := by
  unfold cells_Get_13.f
  have := goGet_loop hl a l.length 1000 (by omega) (by omega)
  rw [List.take_length] at this
  rw [wrap_i64 (by omega) (by omega)]
  exact this
theorem goPut {l : List Cel} (hl : l.length < 800) (a b : Int) : cells_Put_15.f 1000 l a b = some (memC (l ++ [(a, b)])) := by
  unfold cells_Put_15.f
  have := of_loop (F := cells_Put_15.l0 1000 l a b) (l := l) (by omega) (fun k kvs i => by rw [cells_Put_15.l0.eq_2]; unfold putK; simp only [Let]; cases (rdD l i).2 == 0 <;> rfl) _ 1000 0 [] (by omega) rfl (by omega)
  rw [show ((0 : Nat) : Int) = 0 from rfl, List.drop_zero] at this
  rw [this, Option.bind_some]
  have ht := toldM (l := l ++ [(a, b)]) (by simp; omega)
  rw [ofL_app] at ht
  have e : [(a, b)].foldl putK (ofL l) = cond (b == 0) (delK (ofL l) a) (insK (ofL l) a b) := rfl
  rw [e] at ht
  have e2 : l.foldl putK [] = ofL l := rfl
  simp only [Let]
  rw [e2]
  cases hb : b == 0 with
  | true => rw [hb] at ht; rw [cond_t] at ht ⊢; rw [ht]; rfl
  | false => rw [hb] at ht; rw [cond_f] at ht ⊢; rw [ht]; rfl
theorem refPut {l : List Cel} (hl : l.length < 800) (ho : okC l) {a : Int} (ha : 0 ≤ a ∧ a < 65536) (b : Int) : charabancref14_Put_16.f 1000 l a b = some (memC (l ++ [(a, b)])) := by
  unfold charabancref14_Put_16.f
  rw [List.nil_append, mayBe_of (by simp; omega) (by simp; omega), cond_t, mayBe_of (by simp; omega) (by simp; omega), cond_t, refMake (by simp; omega)]
  · rfl
  · intro p hp
    rcases List.mem_append.1 hp with hp | hp
    · exact ho p hp
    · rw [List.mem_singleton.1 hp]; exact ha
/-- Bytes as cells, from an address on. -/
def cellsFrom (a : Int) : List Int → List Cel
  | [] => []
  | x :: xs => (a, x) :: cellsFrom (IntKind.wrap .u16 (a + 1)) xs
theorem cellsFrom_len : ∀ (a : Int) (b : List Int), (cellsFrom a b).length = b.length
  | _, [] => rfl
  | a, x :: xs => by rw [cellsFrom, List.length_cons, cellsFrom_len, List.length_cons]
theorem w16_in (x : Int) : 0 ≤ IntKind.wrap .u16 x ∧ IntKind.wrap .u16 x < 65536 := by rw [IntKind.wrap_u16]; omega
theorem cellsFrom_ok {a : Int} (ha : 0 ≤ a ∧ a < 65536) : ∀ (b : List Int), okC (cellsFrom a b)
  | [] => fun p hp => absurd hp (by simp [cellsFrom])
  | x :: xs => fun p hp => by
    rcases List.mem_cons.1 hp with rfl | hp
    · exact ha
    · exact cellsFrom_ok (w16_in _) xs p hp
theorem okC_app {l m : List Cel} (h1 : okC l) (h2 : okC m) : okC (l ++ m) := fun p hp => (List.mem_append.1 hp).elim (h1 p) (h2 p)
theorem load_loop {l : List Cel} {b : List Int} (at_ : Int) (hb : b.length < 900) : ∀ (m k i : Nat) (a : Int) (kvs : List Cel), i ≤ b.length → b.length - i = m → m < k → cells_Load_17.l1 1000 l at_ b k a kvs (i : Int) = some ((cellsFrom a (b.drop i)).foldl putK kvs)
  | m, 0, i, a, kvs, _, _, hk => by omega
  | m, k + 1, i, a, kvs, h1, h2, hk => by
    rw [cells_Load_17.l1.eq_2]
    by_cases hi : i < b.length
    · rw [decide_eq_true (by omega), cond_t, inR_nat hi, cond_t, wrap_i64 (by omega) (by omega), rd_drop hi]
      have ih := fun kvs => load_loop (l := l) at_ hb (m - 1) k (i + 1) (IntKind.wrap .u16 (a + 1)) kvs (by omega) (by omega) (by omega)
      simp only [Let]
      show _ = some ((cellsFrom (IntKind.wrap .u16 (a + 1)) (b.drop (i + 1))).foldl putK (cond (rdD b (i : Int) == 0) (delK kvs a) (insK kvs a (rdD b (i : Int)))))
      cases rdD b (i : Int) == 0
      · exact ih _
      · exact ih _
    · rw [decide_eq_false (by omega), cond_f, List.drop_eq_nil_of_le (by omega)]; rfl
theorem goLoad {l : List Cel} {b : List Int} (hl : l.length < 400) (hb : b.length < 400) (a : Int) : cells_Load_17.f 1000 l a b = some (memC (l ++ cellsFrom a b)) := by
  unfold cells_Load_17.f
  have := of_loop (F := cells_Load_17.l0 1000 l a b) (l := l) (by omega) (fun k kvs i => by rw [cells_Load_17.l0.eq_2]; unfold putK; simp only [Let]; cases (rdD l i).2 == 0 <;> rfl) _ 1000 0 [] (by omega) rfl (by omega)
  rw [show ((0 : Nat) : Int) = 0 from rfl, List.drop_zero] at this
  have h2 := load_loop (l := l) (b := b) a (by omega) _ 1000 0 a (ofL l) (by omega) rfl (by omega)
  rw [show ((0 : Nat) : Int) = 0 from rfl, List.drop_zero] at h2
  have e2 : l.foldl putK [] = ofL l := rfl
  rw [this, Option.bind_some, e2, h2, Option.bind_some, ← ofL_app, toldM (by rw [List.length_append, cellsFrom_len]; omega)]; rfl
theorem refLoad_loop {l : List Cel} {b : List Int} {at_ : Int} (ha : 0 ≤ at_ ∧ at_ < 65536) (hb : b.length < 400) : ∀ (m k i : Nat) (out : List Cel), i ≤ b.length → b.length - i = m → m < k → out.length ≤ 500 + i → charabancref14_Load_18.l0 1000 l at_ b k out (i : Int) = some (out ++ cellsFrom ((at_ + i) % 65536) (b.drop i))
  | m, 0, i, out, _, _, hk, _ => by omega
  | m, k + 1, i, out, h1, h2, hk, h3 => by
    rw [charabancref14_Load_18.l0.eq_2]
    by_cases hi : i < b.length
    · have e1 : Int.tmod (i : Int) 65536 = i := Int.tmod_eq_of_lt (by omega) (by omega)
      have e2 : IntKind.wrap .u16 (i : Int) = i := by rw [IntKind.wrap_u16]; omega
      have e3 : IntKind.wrap .u16 (at_ + i) = (at_ + i) % 65536 := by rw [IntKind.wrap_u16]
      rw [decide_eq_true (by omega), cond_t, inR_nat hi, cond_t, e1, e2, e3, wrap_i64 (by omega) (by omega), mayBe_of (by simp; omega) (by simp; omega), cond_t, rd_drop hi]
      have ih := refLoad_loop (l := l) ha hb (m - 1) k (i + 1) (out ++ [((at_ + i) % 65536, rdD b (i : Int))]) (by omega) (by omega) (by omega) (by simp; omega)
      refine ih.trans ?_
      show _ = some (out ++ (((at_ + i) % 65536, rdD b (i : Int)) :: cellsFrom (IntKind.wrap .u16 ((at_ + i) % 65536 + 1)) (b.drop (i + 1))))
      rw [List.append_assoc, show IntKind.wrap .u16 ((at_ + i) % 65536 + 1) = (at_ + ((i + 1 : Nat) : Int)) % 65536 by rw [IntKind.wrap_u16]; omega]
      rfl
    · rw [decide_eq_false (by omega), cond_f, List.drop_eq_nil_of_le (by omega)]; simp [cellsFrom]
theorem refLoad {l : List Cel} {b : List Int} (hl : l.length < 400) (hb : b.length < 400) (ho : okC l) {a : Int} (ha : 0 ≤ a ∧ a < 65536) : charabancref14_Load_18.f 1000 l a b = some (memC (l ++ cellsFrom a b)) := by
  unfold charabancref14_Load_18.f
  have := refLoad_loop (l := l) ha hb _ 1000 0 l (by omega) rfl (by omega) (by omega)
  rw [show ((0 : Nat) : Int) = 0 from rfl, List.drop_zero, show (a + 0) % 65536 = a by omega] at this
  rw [List.nil_append, mayBe_of (by simp; omega) (by simp; omega), cond_t, this, Option.bind_some, refMake (by rw [List.length_append, cellsFrom_len]; omega) (okC_app ho (cellsFrom_ok ha b))]; rfl
/-- So many bytes from an address on. -/
def dumpC (g : Int → Int) (a : Int) : Nat → List Int
  | 0 => []
  | n + 1 => g a :: dumpC g (IntKind.wrap .u16 (a + 1)) n
theorem dumpC_len (g : Int → Int) : ∀ (n : Nat) (a : Int), (dumpC g a n).length = n
  | 0, _ => rfl
  | n + 1, a => by rw [dumpC, List.length_cons, dumpC_len g n]
theorem dump_loop {l : List Cel} {p : Int} (hp : p < 900) (at_ : Int) : ∀ (m k i : Nat) (a : Int) (out : List Int), (p - i).toNat = m → m < k → out.length ≤ i → i ≤ 900 → cells_Dump_19.l1 1000 l at_ p (ofL l) k a out (i : Int) = some (out ++ dumpC (getC l) a m)
  | m, 0, i, a, out, _, hk, _, _ => by omega
  | m, k + 1, i, a, out, h2, hk, h3, h4 => by
    rw [cells_Dump_19.l1.eq_2, if_neg (by omega)]
    by_cases hi : (i : Int) < p
    · obtain ⟨m, rfl⟩ : ∃ q, m = q + 1 := ⟨m - 1, by omega⟩
      rw [decide_eq_true hi, cond_t, mayBe_of (by simp; omega) (by simp; omega), cond_t, wrap_i64 (by omega) (by omega), ofL_find, optC_getD]
      have ih := dump_loop (l := l) hp at_ m k (i + 1) (IntKind.wrap .u16 (a + 1)) (out ++ [getC l a]) (by omega) (by omega) (by simp; omega) (by omega)
      refine ih.trans ?_
      rw [List.append_assoc]; rfl
    · obtain rfl : m = 0 := by omega
      rw [decide_eq_false hi, cond_f, dumpC, List.append_nil]
theorem goDump {l : List Cel} (hl : l.length < 900) (a : Int) {p : Int} (hp : p < 900) : cells_Dump_19.f 1000 l a p = some (dumpC (getC l) a p.toNat) := by
  unfold cells_Dump_19.f
  have := of_loop (F := cells_Dump_19.l0 1000 l a p) (l := l) (by omega) (fun k kvs i => by rw [cells_Dump_19.l0.eq_2]; unfold putK; simp only [Let]; cases (rdD l i).2 == 0 <;> rfl) _ 1000 0 [] (by omega) rfl (by omega)
  rw [show ((0 : Nat) : Int) = 0 from rfl, List.drop_zero] at this
  have e2 : l.foldl putK [] = ofL l := rfl
  have h2 := dump_loop (l := l) hp a p.toNat 1000 0 a [] (by omega) (by omega) (by simp) (by omega)
  rw [show ((0 : Nat) : Int) = 0 from rfl, List.nil_append] at h2
  rw [this, Option.bind_some, e2, h2]; rfl
theorem refDump_loop {l : List Cel} (hl : l.length < 900) {p at_ : Int} (hp : p < 900) (ha : 0 ≤ at_ ∧ at_ < 65536) : ∀ (m k i : Nat) (out : List Int), (p - i).toNat = m → m < k → out.length ≤ i → i ≤ 900 → charabancref14_Dump_20.l0 1000 l at_ p k out (i : Int) = some (out ++ dumpC (getC l) ((at_ + i) % 65536) m)
  | m, 0, i, out, _, hk, _, _ => by omega
  | m, k + 1, i, out, h2, hk, h3, h4 => by
    rw [charabancref14_Dump_20.l0.eq_2]
    simp only [Let]
    by_cases hi : (i : Int) < p
    · obtain ⟨m, rfl⟩ : ∃ q, m = q + 1 := ⟨m - 1, by omega⟩
      have e2 : IntKind.wrap .u16 (i : Int) = i := by rw [IntKind.wrap_u16]; omega
      have e3 : IntKind.wrap .u16 (at_ + i) = (at_ + i) % 65536 := by rw [IntKind.wrap_u16]
      rw [decide_eq_true hi, cond_t, decide_eq_true (by omega), cond_t, e2, e3, refGet hl, Option.bind_some, mayBe_of (by simp; omega) (by simp; omega), cond_t, wrap_i64 (by omega) (by omega)]
      have ih := refDump_loop hl hp ha m k (i + 1) (out ++ [getC l ((at_ + i) % 65536)]) (by omega) (by omega) (by simp; omega) (by omega)
      refine ih.trans ?_
      rw [List.append_assoc, show (at_ + ((i + 1 : Nat) : Int)) % 65536 = IntKind.wrap .u16 ((at_ + i) % 65536 + 1) by rw [IntKind.wrap_u16]; omega]; rfl
    · obtain rfl : m = 0 := by omega
      rw [decide_eq_false hi, cond_f, cond_f, dumpC, List.append_nil]
theorem refDump {l : List Cel} (hl : l.length < 900) {a : Int} (ha : 0 ≤ a ∧ a < 65536) {p : Int} (hp : p < 900) : charabancref14_Dump_20.f 1000 l a p = some (dumpC (getC l) a p.toNat) := by
  unfold charabancref14_Dump_20.f
  have h2 := refDump_loop hl hp ha p.toNat 1000 0 [] (by omega) (by omega) (by simp) (by omega)
  rw [show ((0 : Nat) : Int) = 0 from rfl, List.nil_append, show (a + 0) % 65536 = a by omega] at h2
  rw [h2]; rfl
end Go.Proofs.Ytbcepghanbkncaa.Cel
