/- Cells: put, load, dump, check, and what is the same. -/
import Derived.Test.YtbcepghanbkncaaGreatDoorLiTCeLibC
import Derived.Test.YtbcepghanbkncaaGreatDoorEngText
set_option linter.unusedVariables false
set_option linter.unusedSimpArgs false
namespace Go.Proofs.YtbcepghanbkncaaGreatDoor.LiT.Ce
open Go.RowKit Go.Eng
theorem w16_in (x : Int) : 0 ≤ IntKind.wrap .u16 x ∧ IntKind.wrap .u16 x < 65536 := by rw [IntKind.wrap_u16]; omega
def dumpC (g : Int → Int) (a : Int) : Nat → List Int
  | 0 => []
  | n + 1 => g a :: dumpC g (IntKind.wrap .u16 (a + 1)) n
theorem dumpC_len (g : Int → Int) : ∀ (n : Nat) (a : Int), (dumpC g a n).length = n
  | 0, _ => rfl
  | n + 1, a => by rw [dumpC, List.length_cons, dumpC_len g n]
theorem dump_loop {l : List Cel} {p : Int} (hp : p < 900) (at_ : Int) : ∀ (m k i : Nat) (a : Int) (out : List Int), (p - i).toNat = m → m < k → out.length ≤ i → i ≤ 900 → cells_Dump_39.l1 1000 l at_ p (ofL l) k a out (i : Int) = some (out ++ dumpC (getC l) a m)
  | m, 0, i, a, out, _, hk, _, _ => by omega
  | m, k + 1, i, a, out, h2, hk, h3, h4 => by
    rw [cells_Dump_39.l1.eq_2, if_neg (by omega)]
    by_cases hi : (i : Int) < p
    · obtain ⟨m, rfl⟩ : ∃ q, m = q + 1 := ⟨m - 1, by omega⟩
      rw [decide_eq_true hi, cond_t, mayBe_of (by simp; omega) (by simp; omega), cond_t, wrap_i64 (by omega) (by omega), ofL_find, optC_getD]
      have ih := dump_loop (l := l) hp at_ m k (i + 1) (IntKind.wrap .u16 (a + 1)) (out ++ [getC l a]) (by omega) (by omega) (by simp; omega) (by omega)
      refine ih.trans ?_
      rw [List.append_assoc]; rfl
    · obtain rfl : m = 0 := by omega
      rw [decide_eq_false hi, cond_f, dumpC, List.append_nil]
theorem goDump {l : List Cel} (hl : l.length < 900) (a : Int) {p : Int} (hp : p < 900) : cells_Dump_39.f 1000 l a p = some (dumpC (getC l) a p.toNat) := by
  unfold cells_Dump_39.f
  have := of_loop (F := cells_Dump_39.l0 1000 l a p) (l := l) (by omega) (fun k kvs i => by rw [cells_Dump_39.l0.eq_2]; unfold putK; simp only [Let]; cases (rdD l i).2 == 0 <;> rfl) _ 1000 0 [] (by omega) rfl (by omega)
  rw [show ((0 : Nat) : Int) = 0 from rfl, List.drop_zero] at this
  have e2 : l.foldl putK [] = ofL l := rfl
  have h2 := dump_loop (l := l) hp a p.toNat 1000 0 a [] (by omega) (by omega) (by simp) (by omega)
  rw [show ((0 : Nat) : Int) = 0 from rfl, List.nil_append] at h2
  rw [this, Option.bind_some, e2, h2]; rfl
theorem refDump_loop {l : List Cel} (hl : l.length < 900) {p at_ : Int} (hp : p < 900) (ha : 0 ≤ at_ ∧ at_ < 65536) : ∀ (m k i : Nat) (out : List Int), (p - i).toNat = m → m < k → out.length ≤ i → i ≤ 900 → charabancref14_Dump_22.l0 1000 l at_ p k out (i : Int) = some (out ++ dumpC (getC l) ((at_ + i) % 65536) m)
  | m, 0, i, out, _, hk, _, _ => by omega
  | m, k + 1, i, out, h2, hk, h3, h4 => by
    rw [charabancref14_Dump_22.l0.eq_2]
    simp only [Let]
    by_cases hi : (i : Int) < p
    · obtain ⟨m, rfl⟩ : ∃ q, m = q + 1 := ⟨m - 1, by omega⟩
      have e2 : IntKind.wrap .u16 (i : Int) = i := by rw [IntKind.wrap_u16]; omega
      have e3 : IntKind.wrap .u16 (at_ + i) = (at_ + i) % 65536 := by rw [IntKind.wrap_u16]
      rw [decide_eq_true hi, cond_t, decide_eq_true (by omega), cond_t, e2, e3, refGet hl, Option.bind_some, mayBe_of (by simp; omega) (by simp; omega), cond_t, wrap_i64 (by omega) (by omega)]
      have ih := refDump_loop hl hp ha m k (i + 1) (out ++ [getC l ((at_ + i) % 65536)]) (by omega) (by omega) (by simp; omega) (by omega)
      refine ih.trans ?_
      rw [List.append_assoc, show (at_ + ((i + 1 : Nat) : Int)) % 65536 = IntKind.wrap .u16 ((at_ + i) % 65536 + 1) by rw [IntKind.wrap_u16]; omega]; rfl
    · obtain rfl : m = 0 := by omega
      rw [decide_eq_false hi, cond_f, cond_f, dumpC, List.append_nil]
theorem refDump {l : List Cel} (hl : l.length < 900) {a : Int} (ha : 0 ≤ a ∧ a < 65536) {p : Int} (hp : p < 900) : charabancref14_Dump_22.f 1000 l a p = some (dumpC (getC l) a p.toNat) := by
  unfold charabancref14_Dump_22.f
  have h2 := refDump_loop hl hp ha p.toNat 1000 0 [] (by omega) (by omega) (by simp) (by omega)
  rw [show ((0 : Nat) : Int) = 0 from rfl, List.nil_append, show (a + 0) % 65536 = a by omega] at h2
  rw [h2]; rfl
end Go.Proofs.YtbcepghanbkncaaGreatDoor.LiT.Ce
