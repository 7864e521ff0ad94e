/- Finding bytes in the round of memory: both find the first place. -/
import Derived.Test.YtbcepghanbkncaaGreatDoorLiFFiLibA
set_option linter.unusedVariables false
set_option linter.unusedSimpArgs false
namespace Go.Proofs.YtbcepghanbkncaaGreatDoor.LiF.Fi
open Go.RowKit Go.Eng Go.Proofs.YtbcepghanbkncaaGreatDoor.LiF.Ce
theorem goFind {l : List Cel} (hl : l.length < 900) (ho : okC l) (hg : ∀ a, 0 ≤ getC l a ∧ getC l a < 256) {a : Nat} (ha : a < 65536) {b : List Int} (hb : okB b) (hbl : b.length ≤ 64) {r : Int × Bool} (hr : Found (getC l) a b r) : listing_Find_20.f 70000 l (a : Int) b = some r := by
  unfold listing_Find_20.f
  rw [decide_eq_false (by omega), cond_f, makeR_of (by decide) (by decide) (by decide), cond_t]
  obtain ⟨m0, hm0⟩ : ∃ m0, m0 = List.replicate (Int.toNat 65536) (0 : Int) := ⟨_, rfl⟩
  rw [← hm0, mem_loop0 hl ho (fun k m i => listing_Find_20.l0.eq_2 ..) (by omega) (by rw [hm0, List.length_replicate]; rfl), Option.bind_some]
  have hm := Mem.of ho hm0
  generalize setM m0 l = m at hm ⊢
  have hlen := hm.len
  rw [hlen, cutR_of (by omega) (by omega) (by omega), cond_t, cutR_of (by omega) (by omega) (by omega), cond_t]
  have e1 : cutL m (a : Int) ((65536 : Nat) : Int) = m.drop a := by unfold cutL; rw [Int.toNat_natCast, Int.toNat_natCast, List.take_of_length_le (by omega)]
  have e2 : cutL m 0 64 = m.take 64 := cutL_nat m 64
  rw [e1, e2, concat_three _ _ _ (by rw [List.length_drop, List.length_take]; omega) (by rw [List.length_drop, List.length_take]; omega), Option.bind_some]
  obtain ⟨N, hN⟩ : ∃ N : Nat, N = 65536 + (b.length - 1) := ⟨_, rfl⟩
  rw [wrap_i64 (x := (b.length : Int) - 1) (by omega) (by omega)]
  have e3 : IntKind.wrap .i64 (65536 + (if (b.length : Int) - 1 > 0 then (b.length : Int) - 1 else 0)) = (N : Int) := by
    rw [wrap_i64 (by split <;> omega) (by split <;> omega)]; split <;> omega
  rw [e3]
  have hrl := round_len hm ha
  have hrr : List.drop a m ++ m ++ List.take 64 m = roundL m a := rfl
  rw [hrr, cutR_of (by omega) (by omega) (by rw [hrl]; omega), cond_t, cutL_nat, strOf_ba, strOf_ba]
  have hs : (ba (((roundL m a).take N).map fun n => UInt8.ofNat n.toNat)).size = N := by rw [ba_size, List.length_map, List.length_take, hrl]; omega
  unfold strings_Index_45.f
  rw [show Nat.blt (ba (((roundL m a).take N).map fun n => UInt8.ofNat n.toNat)).size 4294967281 = true by rw [hs]; simp [Nat.blt, hN]; omega, cond_t, Option.bind_some, ba_list, ba_list]
  have hsl : (((roundL m a).take N).map fun n => UInt8.ofNat n.toNat).length = N := by rw [List.length_map, List.length_take, hrl]; omega
  have hoc : ∀ i, i < 65536 → (Lib.occAt (((roundL m a).take N).map fun n => UInt8.ofNat n.toNat) (b.map fun n => UInt8.ofNat n.toNat) i = true ↔ occ (getC l) a b i) := fun i hi => occ_at hg hm ha hb (by omega) (by omega)
  cases hr with
  | yes i hi h hn =>
    rw [Lib.index_first (i := i) (by rw [hsl]; omega) ((hoc i hi).2 h) (fun j hj => by
      cases hc : Lib.occAt (((roundL m a).take N).map fun n => UInt8.ofNat n.toNat) (b.map fun n => UInt8.ofNat n.toNat) j with
      | false => rfl
      | true => exact absurd ((hoc j (by omega)).1 hc) (hn j hj))]
    rw [decide_eq_false (by omega), cond_f, show IntKind.wrap .u16 ((a : Int) + IntKind.wrap .u16 (i : Int)) = ((a : Int) + i) % 65536 by rw [IntKind.wrap_u16, IntKind.wrap_u16]; omega]
  | no hn =>
    rw [Lib.index_none (fun j hj => by
      cases hc : Lib.occAt (((roundL m a).take N).map fun n => UInt8.ofNat n.toNat) (b.map fun n => UInt8.ofNat n.toNat) j with
      | false => rfl
      | true =>
        by_cases hj2 : j < 65536
        · exact absurd ((hoc j hj2).1 hc) (hn j hj2)
        · exfalso
          rcases Lib.occAt_room hc with h | h
          · rw [hsl, List.length_map] at h
            by_cases hb0 : b.length = 0
            · exact hn 0 (by omega) (by unfold occ; rw [hb0, List.eq_nil_of_length_eq_zero hb0]; rfl)
            · omega
          · have hb0 : b.length = 0 := by have := congrArg List.length h; rwa [List.length_map] at this
            exact hn 0 (by omega) (by unfold occ; rw [hb0, List.eq_nil_of_length_eq_zero hb0]; rfl))]
    rfl
theorem mod_same {x : Int} (h : 0 ≤ x) : Int.tmod x 65536 = x % 65536 := Int.tmod_eq_emod_of_nonneg h
theorem dump_head {g : Int → Int} {s : Int} {n : Nat} {b : List Int} {j : Nat} (hj : j < b.length) (hn : n = b.length - j) :
    dumpC g s n = b.drop j ↔ g s = rdD b (j : Int) ∧ dumpC g (IntKind.wrap .u16 (s + 1)) (n - 1) = b.drop (j + 1) := by
  obtain ⟨n, rfl⟩ : ∃ q, n = q + 1 := ⟨n - 1, by omega⟩
  rw [dumpC, rd_drop hj, List.cons.injEq]; rfl
theorem ref_l1 {l : List Cel} {m : List Int} (hm : Mem (getC l) m) {b : List Int} (hbl : b.length ≤ 64) (a : Int) (t57 s : Int) (hs : 0 ≤ s ∧ s < 65536) : ∀ (n k j : Nat) (ok : Bool), j ≤ b.length → b.length - j = n → n + 1 < k →
    charabancref34_Find_21.l1 70000 l a b m t57 s k ok (j : Int) = some (ok && decide (dumpC (getC l) ((s + j) % 65536) n = b.drop j))
  | n, 0, j, ok, _, _, hk => by omega
  | n, k + 1, j, false, h1, h2, hk => by
    rw [charabancref34_Find_21.l1.eq_2]
    simp only [Let]
    cases decide ((j : Int) < (b.length : Int)) <;> simp [cond_t, cond_f]
  | n, k + 1, j, true, h1, h2, hk => by
    rw [charabancref34_Find_21.l1.eq_2]
    simp only [Let]
    by_cases hj : j < b.length
    · rw [decide_eq_true (show (j : Int) < (b.length : Int) by omega), cond_t, cond_t, wrap_i64 (x := s + (j : Int)) (by omega) (by omega), mod_same (by omega), inR_iff.2 (by rw [hm.len]; omega), cond_t, inR_nat hj, cond_t, wrap_i64 (x := (j : Int) + 1) (by omega) (by omega), mem_rd hm (by omega) (by omega)]
      refine (ref_l1 hm hbl a t57 s hs (n - 1) k (j + 1) _ (by omega) (by omega) (by omega)).trans ?_
      rw [Bool.true_and]
      congr 1
      rw [Bool.eq_iff_iff, Bool.and_eq_true, decide_eq_true_iff, beq_iff_eq, decide_eq_true_iff, dump_head hj h2.symm, show IntKind.wrap .u16 ((s + (j : Int)) % 65536 + 1) = (s + ((j + 1 : Nat) : Int)) % 65536 by rw [IntKind.wrap_u16]; omega]
    · obtain rfl : n = 0 := by omega
      rw [decide_eq_false (by omega), cond_f, cond_f, List.drop_eq_nil_of_le (by omega)]; rfl
theorem ref_l2 {l : List Cel} {m : List Int} (hm : Mem (getC l) m) {b : List Int} (hbl : b.length ≤ 64) {a : Nat} (ha : a < 65536) {r : Int × Bool} (hr : Found (getC l) a b r) : ∀ (n k i : Nat), i ≤ 65536 → 65536 - i = n → n < k → (∀ j, j < i → ¬ occ (getC l) a b j) →
    (charabancref34_Find_21.l2 70000 l (a : Int) b m k (i : Int)).bind (fun x91 => Lp.elim x91 (fun t95 => some (t95, true)) (fun _ => some (0, false))) = some r
  | n, 0, i, _, _, hk, _ => by omega
  | n, k + 1, i, h1, h2, hk, hp => by
    rw [charabancref34_Find_21.l2.eq_2]
    by_cases hi : i < 65536
    · rw [decide_eq_true (by omega), cond_t, wrap_i64 (x := (a : Int)) (by omega) (by omega), wrap_i64 (x := (a : Int) + (i : Int)) (by omega) (by omega), mod_same (by omega)]
      have h := ref_l1 hm hbl a (i : Int) (((a : Int) + i) % 65536) (by omega) _ 70000 0 true (by omega) rfl (by omega)
      rw [show ((0 : Nat) : Int) = 0 from rfl, Nat.sub_zero, List.drop_zero, Bool.true_and, show (((a : Int) + i) % 65536 + 0) % 65536 = ((a : Int) + i) % 65536 by omega] at h
      rw [h, Option.bind_some]
      by_cases ho : occ (getC l) a b i
      · rw [decide_eq_true (show dumpC (getC l) (((a : Int) + i) % 65536) b.length = b from ho), cond_t]
        show some (IntKind.wrap .u16 _, true) = _
        cases hr with
        | yes i' hi' h' hn' =>
          have : i' = i := by
            rcases Nat.lt_trichotomy i i' with q | q | q
            · exact absurd ho (hn' i q)
            · exact q.symm
            · exact absurd h' (hp i' q)
          subst this
          rw [IntKind.wrap_u16, show ((a : Int) + i') % 65536 % 65536 = ((a : Int) + i') % 65536 by omega]
        | no hn' => exact absurd ho (hn' i hi)
      · rw [decide_eq_false (show ¬ dumpC (getC l) (((a : Int) + i) % 65536) b.length = b from ho), cond_f, wrap_i64 (by omega) (by omega)]
        exact ref_l2 hm hbl ha hr (n - 1) k (i + 1) (by omega) (by omega) (by omega) (fun j hj => by
          by_cases h3 : j = i
          · rw [h3]; exact ho
          · exact hp j (by omega))
    · rw [decide_eq_false (by omega), cond_f]
      show some (0, false) = _
      cases hr with
      | yes i' hi' h' hn' => exact absurd h' (hp i' (by omega))
      | no hn' => rfl
theorem refFind {l : List Cel} (hl : l.length < 900) (ho : okC l) {a : Nat} (ha : a < 65536) {b : List Int} (hbl : b.length ≤ 64) {r : Int × Bool} (hr : Found (getC l) a b r) : charabancref34_Find_21.f 70000 l (a : Int) b = some r := by
  unfold charabancref34_Find_21.f
  have hml := memC_len l
  have hmo : okC (memC l) := fun p hp => ho p (memC_mem hp)
  rw [decide_eq_false (by omega), cond_f, refMake hl ho, Option.bind_some, makeR_of (by decide) (by decide) (by decide), cond_t]
  obtain ⟨m0, hm0⟩ : ∃ m0, m0 = List.replicate (Int.toNat 65536) (0 : Int) := ⟨_, rfl⟩
  rw [← hm0, mem_loop0 (by omega) hmo (fun k m i => charabancref34_Find_21.l0.eq_2 ..) (by omega) (by rw [hm0, List.length_replicate]; rfl), Option.bind_some]
  have hm := Mem.of hmo hm0
  generalize setM m0 (memC l) = m at hm ⊢
  have hm2 : Mem (getC l) m := ⟨hm.len, fun a ha => (hm.rd a ha).trans (by rw [memC_get])⟩
  exact ref_l2 hm2 hbl ha hr _ 70000 0 (by omega) rfl (by omega) (fun j hj => by omega)
end Go.Proofs.YtbcepghanbkncaaGreatDoor.LiF.Fi
