/- Finding bytes in the round of memory: what the program and the reference find. -/
import Derived.Test.YtbcepghanbkncaaGreatDoorLiTCeLibD
import Derived.Lib.Index
set_option linter.unusedVariables false
set_option linter.unusedSimpArgs false
namespace Go.Proofs.YtbcepghanbkncaaGreatDoor.LiT.Fi
open Go.RowKit Go.Eng Go.Proofs.YtbcepghanbkncaaGreatDoor.LiT.Ce
def setM (m : List Int) (l : List Cel) : List Int := l.foldl (fun m p => stD m p.1 p.2) m
theorem setM_len : ∀ (l : List Cel) (m : List Int), (setM m l).length = m.length
  | [], m => rfl
  | p :: l, m => by rw [setM, List.foldl_cons]; exact (setM_len l _).trans (by simp [stD])
theorem rd_st {m : List Int} {a b x : Int} (ha : 0 ≤ a) (hb : 0 ≤ b ∧ b < (m.length : Int)) : rdD (stD m b x) a = if b = a then x else rdD m a := by
  obtain ⟨i, rfl⟩ := Int.eq_ofNat_of_zero_le ha
  obtain ⟨j, rfl⟩ := Int.eq_ofNat_of_zero_le hb.1
  simp only [rdD, stD, List.getD, Int.toNat_natCast, List.getElem?_set]
  by_cases hij : j = i
  · subst hij; rw [if_pos rfl, if_pos (by omega), if_pos rfl]; rfl
  · rw [if_neg hij, if_neg (by omega)]
theorem setM_rd : ∀ (l : List Cel) (m : List Int) (a : Int), m.length = 65536 → okC l → 0 ≤ a → rdD (setM m l) a = l.foldl (fun b p => if p.1 = a then p.2 else b) (rdD m a)
  | [], m, a, _, _, _ => rfl
  | p :: l, m, a, hm, ho, ha => by
    have hp := ho p List.mem_cons_self
    rw [setM, List.foldl_cons, List.foldl_cons]
    refine (setM_rd l (stD m p.1 p.2) a (by simp [stD, hm]) (fun q hq => ho q (List.mem_cons_of_mem _ hq)) ha).trans ?_
    rw [rd_st ha (by rw [hm]; exact hp)]
theorem mem_loop {F : Nat → List Int → Int → Option (List Int)} {l : List Cel} (hl : l.length < 900) (ho : okC l)
    (h : ∀ k m i, F (k + 1) m i = cond (decide (i < (l.length : Int))) (cond (inR i l.length) (cond (inR (rdD l i).1 m.length) (F k (stD m (rdD l i).1 (rdD l i).2) (IntKind.wrap .i64 (i + 1))) none) none) (some m)) :
    ∀ (n k i : Nat) (m : List Int), i ≤ l.length → l.length - i = n → n < k → m.length = 65536 → F k m (i : Int) = some (setM m (l.drop i))
  | n, 0, i, m, _, _, hk, _ => by omega
  | n, k + 1, i, m, h1, h2, hk, hm => by
    rw [h]
    by_cases hi : i < l.length
    · have hp := ho _ (List.getElem_mem hi)
      rw [← rdD_nat l hi] at hp
      rw [decide_eq_true (by omega), cond_t, inR_nat hi, cond_t, inR_iff.2 (by rw [hm]; exact hp), cond_t, wrap_i64 (by omega) (by omega), rd_drop hi]
      exact mem_loop hl ho h (n - 1) k (i + 1) _ (by omega) (by omega) (by omega) (by simp [stD, hm])
    · rw [decide_eq_false (by omega), cond_f, List.drop_eq_nil_of_le (by omega)]; rfl
theorem mem_loop0 {F : Nat → List Int → Int → Option (List Int)} {l : List Cel} (hl : l.length < 900) (ho : okC l)
    (h : ∀ k m i, F (k + 1) m i = cond (decide (i < (l.length : Int))) (cond (inR i l.length) (cond (inR (rdD l i).1 m.length) (F k (stD m (rdD l i).1 (rdD l i).2) (IntKind.wrap .i64 (i + 1))) none) none) (some m)) {k : Nat} (hk : 900 < k) {m : List Int} (hm : m.length = 65536) : F k m 0 = some (setM m l) := by
  have := mem_loop hl ho h _ k 0 m (by omega) rfl (by omega) hm
  rw [List.drop_zero] at this; exact this
def occ (g : Int → Int) (a : Int) (b : List Int) (i : Nat) : Prop := dumpC g ((a + i) % 65536) b.length = b
instance (g : Int → Int) (a : Int) (b : List Int) (i : Nat) : Decidable (occ g a b i) := by unfold occ; infer_instance
theorem dumpC_get (g : Int → Int) : ∀ (n : Nat) (a : Int) (k : Nat), 0 ≤ a → a < 65536 → k < n → (dumpC g a n)[k]? = some (g ((a + k) % 65536))
  | 0, a, k, _, _, h => by omega
  | n + 1, a, 0, h0, h1, h => by rw [dumpC, List.getElem?_cons_zero, show (a + ((0 : Nat) : Int)) % 65536 = a by omega]
  | n + 1, a, k + 1, h0, h1, h => by
    have := w16_in (a + 1)
    rw [dumpC, List.getElem?_cons_succ, dumpC_get g n _ k this.1 this.2 (by omega), show (IntKind.wrap .u16 (a + 1) + (k : Int)) % 65536 = (a + ((k + 1 : Nat) : Int)) % 65536 by rw [IntKind.wrap_u16]; omega]
structure Mem (g : Int → Int) (m : List Int) : Prop where
  len : m.length = 65536
  rd : ∀ a : Nat, a < 65536 → m[a]? = some (g a)
theorem Mem.of {l : List Cel} (ho : okC l) {m0 : List Int} (h0 : m0 = List.replicate (Int.toNat 65536) (0 : Int)) : Mem (getC l) (setM m0 l) := by
  have hm0 : m0.length = 65536 := by rw [h0, List.length_replicate]; rfl
  refine ⟨(setM_len l m0).trans hm0, fun a ha => ?_⟩
  have h := setM_rd l m0 (a : Int) hm0 ho (by omega)
  have hl : (setM m0 l).length = 65536 := (setM_len l m0).trans hm0
  rw [rdD_nat _ (by rw [hl]; exact ha)] at h
  rw [List.getElem?_eq_getElem (by rw [hl]; exact ha), h]
  have : rdD m0 (a : Int) = 0 := by rw [rdD_nat _ (by rw [hm0]; exact ha)]; subst h0; exact List.getElem_replicate _
  rw [this]; rfl
def roundL (m : List Int) (a : Nat) : List Int := m.drop a ++ m ++ m.take 64
theorem round_len {g : Int → Int} {m : List Int} (hm : Mem g m) {a : Nat} (ha : a < 65536) : (roundL m a).length = 131136 - a := by
  simp only [roundL, List.length_append, List.length_drop, List.length_take, hm.len]; omega
theorem round_get {g : Int → Int} {m : List Int} (hm : Mem g m) {a j : Nat} (ha : a < 65536) (hj : j < 65600) : (roundL m a)[j]? = some (g (((a : Int) + j) % 65536)) := by
  unfold roundL
  rw [List.append_assoc]
  by_cases h : j < 65536 - a
  · rw [List.getElem?_append_left (by rw [List.length_drop, hm.len]; exact h), List.getElem?_drop, hm.rd _ (by omega), show (((a : Int) + j) % 65536) = ((a + j : Nat) : Int) by omega]
  · rw [List.getElem?_append_right (by rw [List.length_drop, hm.len]; omega), List.length_drop, hm.len]
    by_cases h2 : j - (65536 - a) < 65536
    · rw [List.getElem?_append_left (by rw [hm.len]; exact h2), hm.rd _ h2, show (((a : Int) + j) % 65536) = ((j - (65536 - a) : Nat) : Int) by omega]
    · rw [List.getElem?_append_right (by rw [hm.len]; omega), hm.len, List.getElem?_take_of_lt (by omega), hm.rd _ (by omega), show (((a : Int) + j) % 65536) = ((j - (65536 - a) - 65536 : Nat) : Int) by omega]
theorem drop_take_eq {g : Int → Int} {m : List Int} (hm : Mem g m) {a : Nat} (ha : a < 65536) {i n N : Nat} (h : i + n ≤ N) (hN : N ≤ 65600) : (((roundL m a).take N).drop i).take n = dumpC g (((a : Int) + i) % 65536) n := by
  refine List.ext_getElem? fun k => ?_
  by_cases hk : k < n
  · rw [dumpC_get g n _ k (by omega) (by omega) hk, List.getElem?_take_of_lt hk, List.getElem?_drop, List.getElem?_take_of_lt (by omega), round_get hm ha (by omega), show (((a : Int) + i) % 65536 + k) % 65536 = ((a : Int) + ((i + k : Nat) : Int)) % 65536 by omega]
  · rw [List.getElem?_eq_none (by rw [List.length_take]; omega), List.getElem?_eq_none (by rw [dumpC_len]; omega)]
def okB (b : List Int) : Prop := ∀ x ∈ b, 0 ≤ x ∧ x < 256
def toB (x : Int) : UInt8 := UInt8.ofNat x.toNat
theorem toB_inj {x y : Int} (hx : 0 ≤ x ∧ x < 256) (hy : 0 ≤ y ∧ y < 256) (h : toB x = toB y) : x = y := by
  have := congrArg UInt8.toNat h
  simp [toB] at this
  omega
theorem mapB_inj : ∀ {a b : List Int}, okB a → okB b → a.map toB = b.map toB → a = b
  | [], [], _, _, _ => rfl
  | [], y :: b, _, _, h => by simp at h
  | x :: a, [], _, _, h => by simp at h
  | x :: a, y :: b, ha, hb, h => by
    simp only [List.map_cons, List.cons.injEq] at h
    rw [toB_inj (ha x List.mem_cons_self) (hb y List.mem_cons_self) h.1, mapB_inj (fun z hz => ha z (List.mem_cons_of_mem _ hz)) (fun z hz => hb z (List.mem_cons_of_mem _ hz)) h.2]
theorem dumpC_okB {g : Int → Int} (hg : ∀ a, 0 ≤ g a ∧ g a < 256) : ∀ (n : Nat) (a : Int), okB (dumpC g a n)
  | 0, _ => fun x hx => absurd hx (by simp [dumpC])
  | n + 1, a => fun x hx => by
    rcases List.mem_cons.1 hx with rfl | hx
    · exact hg a
    · exact dumpC_okB hg n _ x hx
theorem occ_at {g : Int → Int} (hg : ∀ a, 0 ≤ g a ∧ g a < 256) {m : List Int} (hm : Mem g m) {a : Nat} (ha : a < 65536) {b : List Int} (hb : okB b) {i N : Nat} (h : i + b.length ≤ N) (hN : N ≤ 65600) :
    Lib.occAt (((roundL m a).take N).map toB) (b.map toB) i = true ↔ occ g a b i := by
  have hl : ((roundL m a).take N).length = N := by rw [List.length_take, round_len hm ha]; omega
  rw [Lib.occAt_iff_take _ _ _ (by rw [List.length_map, List.length_map, hl]; exact h), ← List.map_drop, ← List.map_take, List.length_map, drop_take_eq hm ha h hN, beq_iff_eq]
  exact ⟨fun h => mapB_inj (dumpC_okB hg _ _) hb h, fun h => by unfold occ at h; rw [h]⟩
inductive Found (g : Int → Int) (a : Int) (b : List Int) : Int × Bool → Prop
  | yes (i : Nat) (hi : i < 65536) (h : occ g a b i) (hn : ∀ j, j < i → ¬ occ g a b j) : Found g a b ((a + i) % 65536, true)
  | no (hn : ∀ j, j < 65536 → ¬ occ g a b j) : Found g a b (0, false)
theorem concat_three (a b c : List Int) (h : a.length + b.length + c.length < 1000000) (h0 : 0 < a.length + b.length + c.length) : slices_Concat_uint8_uint8_44.f 1000 [a, b, c] = some (a ++ b ++ c) := by
  have r0 : rdD [a, b, c] (0 : Int) = a := rfl
  have r1 : rdD [a, b, c] (1 : Int) = b := rfl
  have r2 : rdD [a, b, c] (2 : Int) = c := rfl
  have e0 : ∀ (x : Int), 0 ≤ x → x < 10000000 → IntKind.wrap .i64 x = x := fun x h h2 => wrap_i64 (by omega) (by omega)
  have l0 : slices_Concat_uint8_uint8_44.l0 1000 [a, b, c] 1000 0 0 = some (((a.length + b.length + c.length : Nat) : Int)) := by
    rw [show slices_Concat_uint8_uint8_44.l0 1000 [a, b, c] 1000 0 0 = slices_Concat_uint8_uint8_44.l0 1000 [a, b, c] (996 + 1 + 1 + 1 + 1) 0 0 from rfl]
    rw [slices_Concat_uint8_uint8_44.l0.eq_2]
    show cond (decide (IntKind.wrap .i64 _ < 0)) _ _ = _
    rw [r0, e0 (0 + (a.length : Int)) (by omega) (by omega), decide_eq_false (by omega)]
    show slices_Concat_uint8_uint8_44.l0 1000 [a, b, c] _ _ (IntKind.wrap .i64 (0 + 1)) = _
    rw [e0 (0 + 1) (by omega) (by omega), show (0 + 1 : Int) = 1 from rfl, slices_Concat_uint8_uint8_44.l0.eq_2]
    show cond (decide (IntKind.wrap .i64 _ < 0)) _ _ = _
    rw [r1, e0 (_ + (b.length : Int)) (by omega) (by omega), decide_eq_false (by omega)]
    show slices_Concat_uint8_uint8_44.l0 1000 [a, b, c] _ _ (IntKind.wrap .i64 (1 + 1)) = _
    rw [e0 (1 + 1) (by omega) (by omega), show (1 + 1 : Int) = 2 from rfl, slices_Concat_uint8_uint8_44.l0.eq_2]
    show cond (decide (IntKind.wrap .i64 _ < 0)) _ _ = _
    rw [r2, e0 (_ + (c.length : Int)) (by omega) (by omega), decide_eq_false (by omega)]
    show slices_Concat_uint8_uint8_44.l0 1000 [a, b, c] _ _ (IntKind.wrap .i64 (2 + 1)) = _
    rw [e0 (2 + 1) (by omega) (by omega), show (2 + 1 : Int) = 3 from rfl, slices_Concat_uint8_uint8_44.l0.eq_2]
    show some _ = _
    congr 1; omega
  have l1 : slices_Concat_uint8_uint8_44.l1 1000 [a, b, c] 1000 [] 0 = some (a ++ b ++ c) := by
    rw [show slices_Concat_uint8_uint8_44.l1 1000 [a, b, c] 1000 [] 0 = slices_Concat_uint8_uint8_44.l1 1000 [a, b, c] (996 + 1 + 1 + 1 + 1) [] 0 from rfl]
    rw [slices_Concat_uint8_uint8_44.l1.eq_2]
    show cond (mayBe _ 1) _ _ = _
    rw [r0, mayBe_of (by simp; omega) (by simp; omega)]
    show slices_Concat_uint8_uint8_44.l1 1000 [a, b, c] _ _ (IntKind.wrap .i64 (0 + 1)) = _
    rw [e0 (0 + 1) (by omega) (by omega), show (0 + 1 : Int) = 1 from rfl, slices_Concat_uint8_uint8_44.l1.eq_2]
    show cond (mayBe _ 1) _ _ = _
    rw [r1, mayBe_of (by simp; omega) (by simp; omega)]
    show slices_Concat_uint8_uint8_44.l1 1000 [a, b, c] _ _ (IntKind.wrap .i64 (1 + 1)) = _
    rw [e0 (1 + 1) (by omega) (by omega), show (1 + 1 : Int) = 2 from rfl, slices_Concat_uint8_uint8_44.l1.eq_2]
    show cond (mayBe _ 1) _ _ = _
    rw [r2, mayBe_of (by simp; omega) (by simp; omega)]
    show slices_Concat_uint8_uint8_44.l1 1000 [a, b, c] _ _ (IntKind.wrap .i64 (2 + 1)) = _
    rw [e0 (2 + 1) (by omega) (by omega), show (2 + 1 : Int) = 3 from rfl, slices_Concat_uint8_uint8_44.l1.eq_2]
    show some _ = _
    rw [List.nil_append]
  unfold slices_Concat_uint8_uint8_44.f
  rw [l0, Option.bind_some]
  simp only [Let]
  rw [show IntKind.wrap .i64 (((a.length + b.length + c.length : Nat) : Int) - 0) = ((a.length + b.length + c.length : Nat) : Int) by rw [e0 _ (by omega) (by omega)]; omega]
  rw [decide_eq_false (by omega), cond_f, decide_eq_true (by omega), cond_t, show zerR ((a.length + b.length + c.length : Nat) : Int) = true by simp [zerR]; omega, cond_t, cutR_of (by omega) (by omega) (by omega), cond_t]
  rw [show cutL (List.replicate (Int.toNat ((a.length + b.length + c.length : Nat) : Int)) (0 : Int)) 0 0 = [] by simp [cutL], l1]; rfl
end Go.Proofs.YtbcepghanbkncaaGreatDoor.LiT.Fi
