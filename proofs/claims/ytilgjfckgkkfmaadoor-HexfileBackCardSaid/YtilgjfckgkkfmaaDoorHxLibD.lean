/- Cells: put, load, dump, check, and what is the same. -/
import Derived.Test.YtilgjfckgkkfmaaDoorHxLibC
import Derived.Test.YtilgjfckgkkfmaaDoorEngText
set_option linter.unusedVariables false
set_option linter.unusedSimpArgs false
namespace Go.Proofs.YtilgjfckgkkfmaaDoor.Hx
open Go.RowKit Go.Eng
theorem same_loop {l : List Cel} (hl : l.length < 900) : ∀ (m k i : Nat), i ≤ l.length → l.length - i = m → m < k → charabancref14_Same_23.l0 1000 l l k (i : Int) = some (Lp.go ())
  | m, 0, i, _, _, hk => by omega
  | m, k + 1, i, h1, h2, hk => by
    rw [charabancref14_Same_23.l0.eq_2]
    by_cases hi : i < l.length
    · rw [decide_eq_true (by omega), cond_t, inR_nat hi, cond_t, cond_t, wrap_i64 (by omega) (by omega)]
      have ih := same_loop hl (m - 1) k (i + 1) (by omega) (by omega) (by omega)
      rw [BEq.rfl, BEq.rfl]
      exact ih
    · rw [decide_eq_false (by omega)]; rfl
theorem same {l : List Cel} (hl : l.length < 900) : charabancref14_Same_23.f 1000 l l = some true := by
  unfold charabancref14_Same_23.f
  have := same_loop hl _ 1000 0 (by omega) rfl (by omega)
  rw [show ((0 : Nat) : Int) = 0 from rfl] at this
  rw [this, bne_self_eq_false]; rfl
/-- Bytes as cells, from an address on. -/
def cellsFrom (a : Int) : List Int → List Cel
  | [] => []
  | x :: xs => (a, x) :: cellsFrom (IntKind.wrap .u16 (a + 1)) xs
theorem cellsFrom_len : ∀ (a : Int) (b : List Int), (cellsFrom a b).length = b.length
  | _, [] => rfl
  | a, x :: xs => by rw [cellsFrom, List.length_cons, cellsFrom_len, List.length_cons]
theorem w16_in (x : Int) : 0 ≤ IntKind.wrap .u16 x ∧ IntKind.wrap .u16 x < 65536 := by rw [IntKind.wrap_u16]; omega
theorem cellsFrom_ok {a : Int} (ha : 0 ≤ a ∧ a < 65536) : ∀ (b : List Int), okC (cellsFrom a b)
  | [] => fun p hp => absurd hp (by simp [cellsFrom])
  | x :: xs => fun p hp => by
    rcases List.mem_cons.1 hp with rfl | hp
    · exact ha
    · exact cellsFrom_ok (w16_in _) xs p hp
theorem okC_app {l m : List Cel} (h1 : okC l) (h2 : okC m) : okC (l ++ m) := fun p hp => (List.mem_append.1 hp).elim (h1 p) (h2 p)
theorem load_loop {l : List Cel} {b : List Int} (at_ : Int) (hb : b.length < 900) : ∀ (m k i : Nat) (a : Int) (kvs : List Cel), i ≤ b.length → b.length - i = m → m < k → cells_Load_40.l1 1000 l at_ b k a kvs (i : Int) = some ((cellsFrom a (b.drop i)).foldl putK kvs)
  | m, 0, i, a, kvs, _, _, hk => by omega
  | m, k + 1, i, a, kvs, h1, h2, hk => by
    rw [cells_Load_40.l1.eq_2]
    by_cases hi : i < b.length
    · rw [decide_eq_true (by omega), cond_t, inR_nat hi, cond_t, wrap_i64 (by omega) (by omega), rd_drop hi]
      have ih := fun kvs => load_loop (l := l) at_ hb (m - 1) k (i + 1) (IntKind.wrap .u16 (a + 1)) kvs (by omega) (by omega) (by omega)
      simp only [Let]
      show _ = some ((cellsFrom (IntKind.wrap .u16 (a + 1)) (b.drop (i + 1))).foldl putK (cond (rdD b (i : Int) == 0) (delK kvs a) (insK kvs a (rdD b (i : Int)))))
      cases rdD b (i : Int) == 0
      · exact ih _
      · exact ih _
    · rw [decide_eq_false (by omega), cond_f, List.drop_eq_nil_of_le (by omega)]; rfl
theorem goLoad {l : List Cel} {b : List Int} (hl : l.length < 400) (hb : b.length < 400) (a : Int) : cells_Load_40.f 1000 l a b = some (memC (l ++ cellsFrom a b)) := by
  unfold cells_Load_40.f
  have := of_loop (F := cells_Load_40.l0 1000 l a b) (l := l) (by omega) (fun k kvs i => by rw [cells_Load_40.l0.eq_2]; unfold putK; simp only [Let]; cases (rdD l i).2 == 0 <;> rfl) _ 1000 0 [] (by omega) rfl (by omega)
  rw [show ((0 : Nat) : Int) = 0 from rfl, List.drop_zero] at this
  have h2 := load_loop (l := l) (b := b) a (by omega) _ 1000 0 a (ofL l) (by omega) rfl (by omega)
  rw [show ((0 : Nat) : Int) = 0 from rfl, List.drop_zero] at h2
  have e2 : l.foldl putK [] = ofL l := rfl
  rw [this, Option.bind_some, e2, h2, Option.bind_some, ← ofL_app, toldM (by rw [List.length_append, cellsFrom_len]; omega)]; rfl
theorem refLoad_loop {l : List Cel} {b : List Int} {at_ : Int} (ha : 0 ≤ at_ ∧ at_ < 65536) (hb : b.length < 400) : ∀ (m k i : Nat) (out : List Cel), i ≤ b.length → b.length - i = m → m < k → out.length ≤ 500 + i → charabancref14_Load_41.l0 1000 l at_ b k out (i : Int) = some (out ++ cellsFrom ((at_ + i) % 65536) (b.drop i))
  | m, 0, i, out, _, _, hk, _ => by omega
  | m, k + 1, i, out, h1, h2, hk, h3 => by
    rw [charabancref14_Load_41.l0.eq_2]
    by_cases hi : i < b.length
    · have e1 : Int.tmod (i : Int) 65536 = i := Int.tmod_eq_of_lt (by omega) (by omega)
      have e2 : IntKind.wrap .u16 (i : Int) = i := by rw [IntKind.wrap_u16]; omega
      have e3 : IntKind.wrap .u16 (at_ + i) = (at_ + i) % 65536 := by rw [IntKind.wrap_u16]
      rw [decide_eq_true (by omega), cond_t, inR_nat hi, cond_t, e1, e2, e3, wrap_i64 (by omega) (by omega), mayBe_of (by simp; omega) (by simp; omega), cond_t, rd_drop hi]
      have ih := refLoad_loop (l := l) ha hb (m - 1) k (i + 1) (out ++ [((at_ + i) % 65536, rdD b (i : Int))]) (by omega) (by omega) (by omega) (by simp; omega)
      refine ih.trans ?_
      show _ = some (out ++ (((at_ + i) % 65536, rdD b (i : Int)) :: cellsFrom (IntKind.wrap .u16 ((at_ + i) % 65536 + 1)) (b.drop (i + 1))))
      rw [List.append_assoc, show IntKind.wrap .u16 ((at_ + i) % 65536 + 1) = (at_ + ((i + 1 : Nat) : Int)) % 65536 by rw [IntKind.wrap_u16]; omega]
      rfl
    · rw [decide_eq_false (by omega), cond_f, List.drop_eq_nil_of_le (by omega)]; simp [cellsFrom]
theorem refLoad {l : List Cel} {b : List Int} (hl : l.length < 400) (hb : b.length < 400) (ho : okC l) {a : Int} (ha : 0 ≤ a ∧ a < 65536) : charabancref14_Load_41.f 1000 l a b = some (memC (l ++ cellsFrom a b)) := by
  unfold charabancref14_Load_41.f
  have := refLoad_loop (l := l) ha hb _ 1000 0 l (by omega) rfl (by omega) (by omega)
  rw [show ((0 : Nat) : Int) = 0 from rfl, List.drop_zero, show (a + 0) % 65536 = a by omega] at this
  rw [List.nil_append, mayBe_of (by simp; omega) (by simp; omega), cond_t, this, Option.bind_some, refMake (by rw [List.length_append, cellsFrom_len]; omega) (okC_app ho (cellsFrom_ok ha b))]; rfl
end Go.Proofs.YtilgjfckgkkfmaaDoor.Hx
