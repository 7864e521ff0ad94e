/- Finding bytes in the round of memory: both find the first place. -/
import Derived.Test.YtbcepghanbkncaaGreatDoorLiTFiLibA
set_option linter.unusedVariables false
set_option linter.unusedSimpArgs false
namespace Go.Proofs.YtbcepghanbkncaaGreatDoor.LiT.Fi
open Go.RowKit Go.Eng Go.Proofs.YtbcepghanbkncaaGreatDoor.LiT.Ce
theorem goFind {l : List Cel} (hl : l.length < 900) (ho : okC l) (hg : ∀ a, 0 ≤ getC l a ∧ getC l a < 256) {a : Nat} (ha : a < 65536) {b : List Int} (hb : okB b) (hbl : b.length ≤ 64) {r : Int × Bool} (hr : Found (getC l) a b r) : listing_Find_20.f 1000 l (a : Int) b = some r := by
  unfold listing_Find_20.f
  rw [decide_eq_false (by omega), cond_f, makeR_of (by decide) (by decide) (by decide), cond_t]
  obtain ⟨m0, hm0⟩ : ∃ m0, m0 = List.replicate (Int.toNat 65536) (0 : Int) := ⟨_, rfl⟩
  rw [← hm0, mem_loop0 (k := 1000) hl ho (fun k m i => listing_Find_20.l0.eq_2 ..) (by omega) (by rw [hm0, List.length_replicate]; rfl), Option.bind_some]
  have hm := Mem.of ho hm0
  generalize setM m0 l = m at hm ⊢
  have hlen := hm.len
  rw [hlen, cutR_of (by omega) (by omega) (by omega), cond_t, cutR_of (by omega) (by omega) (by omega), cond_t]
  have e1 : cutL m (a : Int) ((65536 : Nat) : Int) = m.drop a := by unfold cutL; rw [Int.toNat_natCast, Int.toNat_natCast, List.take_of_length_le (by omega)]
  have e2 : cutL m 0 64 = m.take 64 := cutL_nat m 64
  rw [e1, e2, concat_three _ _ _ (by rw [List.length_drop, List.length_take]; omega) (by rw [List.length_drop, List.length_take]; omega), Option.bind_some]
  obtain ⟨N, hN⟩ : ∃ N : Nat, N = 65536 + (b.length - 1) := ⟨_, rfl⟩
  rw [wrap_i64 (x := (b.length : Int) - 1) (by omega) (by omega)]
  have e3 : IntKind.wrap .i64 (65536 + (if (b.length : Int) - 1 > 0 then (b.length : Int) - 1 else 0)) = (N : Int) := by
    rw [wrap_i64 (by split <;> omega) (by split <;> omega)]; split <;> omega
  rw [e3]
  have hrl := round_len hm ha
  have hrr : List.drop a m ++ m ++ List.take 64 m = roundL m a := rfl
  rw [hrr, cutR_of (by omega) (by omega) (by rw [hrl]; omega), cond_t, cutL_nat, strOf_ba, strOf_ba]
  have hs : (ba (((roundL m a).take N).map fun n => UInt8.ofNat n.toNat)).size = N := by rw [ba_size, List.length_map, List.length_take, hrl]; omega
  unfold strings_Index_45.f
  rw [show Nat.blt (ba (((roundL m a).take N).map fun n => UInt8.ofNat n.toNat)).size 4294967281 = true by rw [hs]; simp [Nat.blt, hN]; omega, cond_t, Option.bind_some, ba_list, ba_list]
  have hsl : (((roundL m a).take N).map fun n => UInt8.ofNat n.toNat).length = N := by rw [List.length_map, List.length_take, hrl]; omega
  have hoc : ∀ i, i < 65536 → (Lib.occAt (((roundL m a).take N).map fun n => UInt8.ofNat n.toNat) (b.map fun n => UInt8.ofNat n.toNat) i = true ↔ occ (getC l) a b i) := fun i hi => occ_at hg hm ha hb (by omega) (by omega)
  cases hr with
  | yes i hi h hn =>
    rw [Lib.index_first (i := i) (by rw [hsl]; omega) ((hoc i hi).2 h) (fun j hj => by
      cases hc : Lib.occAt (((roundL m a).take N).map fun n => UInt8.ofNat n.toNat) (b.map fun n => UInt8.ofNat n.toNat) j with
      | false => rfl
      | true => exact absurd ((hoc j (by omega)).1 hc) (hn j hj))]
    rw [decide_eq_false (by omega), cond_f, show IntKind.wrap .u16 ((a : Int) + IntKind.wrap .u16 (i : Int)) = ((a : Int) + i) % 65536 by rw [IntKind.wrap_u16, IntKind.wrap_u16]; omega]
  | no hn =>
    rw [Lib.index_none (fun j hj => by
      cases hc : Lib.occAt (((roundL m a).take N).map fun n => UInt8.ofNat n.toNat) (b.map fun n => UInt8.ofNat n.toNat) j with
      | false => rfl
      | true =>
        by_cases hj2 : j < 65536
        · exact absurd ((hoc j hj2).1 hc) (hn j hj2)
        · exfalso
          rcases Lib.occAt_room hc with h | h
          · rw [hsl, List.length_map] at h
            by_cases hb0 : b.length = 0
            · exact hn 0 (by omega) (by unfold occ; rw [hb0, List.eq_nil_of_length_eq_zero hb0]; rfl)
            · omega
          · have hb0 : b.length = 0 := by have := congrArg List.length h; rwa [List.length_map] at this
            exact hn 0 (by omega) (by unfold occ; rw [hb0, List.eq_nil_of_length_eq_zero hb0]; rfl))]
    rfl
end Go.Proofs.YtbcepghanbkncaaGreatDoor.LiT.Fi
