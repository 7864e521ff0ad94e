/- The sort at uint16: the recursion. -/
import Derived.Test.YtbcepghanbkncaaGreatDoorLiTSrLibD
import Derived.Test.YtbcepghanbkncaaGreatDoorEngSort
set_option linter.unusedVariables false
set_option linter.unusedSimpArgs false
namespace Go.Proofs.YtbcepghanbkncaaGreatDoor.LiT.Sr
open Go.RowKit Go.Eng
def Good (S : List Int → Int → Int → Int → Option (List Int)) (n : Nat) : Prop := ∀ (xs : List Int) (a b : Nat) (limit : Int), b - a < n → a ≤ b → b ≤ xs.length → xs.length ≤ 49 → xs.Nodup → Go.Sort.Below lti a b xs.toArray →
  ∃ ys : List Int, S xs (a : Int) (b : Int) limit = some ys ∧ ys.length = xs.length ∧ Go.Sort.PermIn a b xs.toArray ys.toArray ∧ Go.Sort.SortedIn lti a b ys.toArray
theorem size_arr (xs : List Int) : xs.toArray.size = xs.length := by simp
theorem nodup_of {xs ys : List Int} {a b : Nat} (hb : b ≤ xs.length) (hp : Go.Sort.PermIn a b xs.toArray ys.toArray) (hn : xs.Nodup) : ys.Nodup := by
  have h := Go.Sort.permIn_mono _ _ a b 0 xs.length (Nat.zero_le _) hb (by simp) hp
  have h1 : ys.length = xs.length := by simpa using h.1
  have h2 : (List.take xs.length ys).Perm xs := by simpa using h.2.2
  rw [List.take_of_length_le (by omega)] at h2
  exact (h2.nodup_iff).2 hn
theorem let_ex {α β : Type} {F : α → Option β} {G : (α → Option β) → Option β} {P : β → Prop} (h : ∀ J : α → Option β, (∀ x, J x = F x) → ∃ ys, G J = some ys ∧ P ys) : ∃ ys, Let F G = some ys ∧ P ys := h F fun _ => rfl
theorem pdq_loop {K : Nat} (hK : 1000 ≤ K) {S : List Int → Int → Int → Int → Option (List Int)} {n : Nat} (hS : Good S n) {p0 : List Int} {p1 p2 p3 : Int} : ∀ (k m : Nat) (xs : List Int) (a b : Nat) (limit : Int) (wb wp : Bool), b - a ≤ m → m < k → m ≤ n → a ≤ b → b ≤ xs.length → xs.length ≤ 49 → xs.Nodup → Go.Sort.Below lti a b xs.toArray →
    ∃ ys : List Int, slices_pdqsortOrdered_uint16_79.l0 K S p0 p1 p2 p3 k xs (a : Int) (b : Int) limit wb wp = some ys ∧ (ys.length = xs.length ∧ Go.Sort.PermIn a b xs.toArray ys.toArray ∧ Go.Sort.SortedIn lti a b ys.toArray)
  | 0, m, xs, a, b, limit, wb, wp, _, hk, _, _, _, _, _, _ => by omega
  | k + 1, m, xs, a, b, limit, wb, wp, hm, hk, hn, hab, hb, hl, hd, hB => by
    have hsz : b ≤ xs.toArray.size := by rw [size_arr]; exact hb
    rw [slices_pdqsortOrdered_uint16_79.l0.eq_2]
    rw [wrap_i64 (x := (b : Int) - (a : Int)) (by omega) (by omega)]
    by_cases h12 : b - a ≤ 12
    · obtain ⟨ys, h1, h2, h3⟩ := insertion hK (xs := xs) hab hb (by omega)
      have h4 := Go.Sort.insertionSort_holds swo xs.toArray a b hab hsz
      rw [h2] at h4
      rw [decide_eq_true (by omega), cond_t, h1, Option.bind_some, beq_len h3, cond_t]
      exact ⟨ys, rfl, h3, h4.1, h4.2⟩
    rw [decide_eq_false (by omega), cond_f]
    by_cases hl0 : limit = 0
    · obtain ⟨ys, h1, h2, h3⟩ := heap hK (xs := xs) (a := a) (b := b) (by omega) hb (by omega)
      have h4 := Go.Sort.heapSort_holds swo xs.toArray a b hab hsz
      rw [h2] at h4
      rw [hl0, beq_self_eq_true, cond_t, h1, Option.bind_some, beq_len h3, cond_t]
      exact ⟨ys, rfl, h3, h4.1, h4.2⟩
    rw [show (limit == 0) = false by simpa using hl0, cond_f]
    refine let_ex fun J36 hJ36 => ?_
    have key : ∀ (ts : List Int) (lm : Int), ts.length = xs.length → Go.Sort.PermIn a b xs.toArray ts.toArray → ∃ ys : List Int, J36 (ts, lm) = some ys ∧ (ys.length = xs.length ∧ Go.Sort.PermIn a b xs.toArray ys.toArray ∧ Go.Sort.SortedIn lti a b ys.toArray) := by
      intro ts lm htl hp
      have hbt : b ≤ ts.length := by omega
      have hszt : b ≤ ts.toArray.size := by rw [size_arr]; exact hbt
      have hBt : Go.Sort.Below lti a b ts.toArray := hB.perm hsz hp
      have hdt := nodup_of hb hp hd
      rw [hJ36]
      dsimp only
      obtain ⟨q, hint, g1, g2, g3, g4⟩ := pivot (K := K) (xs := ts) (a := a) (b := b) (by omega) hbt (by omega)
      rw [g1, Option.bind_some]
      dsimp only
      rw [g4, cond_f]
      refine let_ex fun J51 hJ51 => ?_
      have key51 : ∀ t48 : Bool, ∃ ys : List Int, J51 t48 = some ys ∧ (ys.length = xs.length ∧ Go.Sort.PermIn a b xs.toArray ys.toArray ∧ Go.Sort.SortedIn lti a b ys.toArray) := by
        intro t48
        rw [hJ51]
        refine let_ex fun J68 hJ68 => ?_
        have key68 : ∃ ys : List Int, J68 ts = some ys ∧ (ys.length = xs.length ∧ Go.Sort.PermIn a b xs.toArray ys.toArray ∧ Go.Sort.SortedIn lti a b ys.toArray) := by
          rw [hJ68]
          refine let_ex fun J89 hJ89 => ?_
          -- the partition
          have key0 : ∃ ys : List Int, J89 false = some ys ∧ (ys.length = xs.length ∧ Go.Sort.PermIn a b xs.toArray ys.toArray ∧ Go.Sort.SortedIn lti a b ys.toArray) := by
            rw [hJ89, cond_f]
            obtain ⟨us, c, f, e1, e2, e3⟩ := partition hK (p0 := ts) (a := a) (b := b) (pv := q) (by omega) hbt g2 g3
            obtain ⟨r1, r2, r3, r4, r5, r6, r7⟩ := Go.Sort.round_part swo (Go.Sort.partition_holds lti) g2 g3 hszt hBt e2
            have hbu : b ≤ us.length := by omega
            have hpu := (Go.Sort.partition_holds lti swo ts.toArray a b q g2 g3 hszt).2.2.1
            rw [e2] at hpu
            have hdu := nodup_of hbt hpu hdt
            rw [e1, Option.bind_some]
            dsimp only
            rw [beq_len e3, cond_t, wrap_i64 (x := (c : Int) - (a : Int)) (by omega) (by omega), wrap_i64 (x := (b : Int) - (c : Int)) (by omega) (by omega), wrap_i64 (x := (c : Int) + 1) (by omega) (by omega), show (c : Int) + 1 = ((c + 1 : Nat) : Int) by omega]
            by_cases hlr : c - a < b - c
            · obtain ⟨vs, s1, s2, s3, s4⟩ := hS us a c lm (by omega) (by omega) (by omega) (by omega) hdu r4
              obtain ⟨t1, t2⟩ := r6 _ s3 s4
              rw [decide_eq_true (by omega), cond_t, s1, Option.bind_some, beq_len s2, cond_t]
              obtain ⟨ys, y1, y2, y3, y4⟩ := pdq_loop hK hS (p0 := p0) (p1 := p1) (p2 := p2) (p3 := p3) k (b - (c + 1)) vs (c + 1) b lm (decide ((c : Int) - (a : Int) ≥ IntKind.wrap .i64 (Int.tdiv ((b : Int) - (a : Int)) 8))) f (by omega) (by omega) (by omega) (by omega) (by omega) (by omega) (nodup_of (by omega) s3 hdu) t1
              obtain ⟨z1, z2⟩ := t2 _ y3 y4
              exact ⟨ys, y1, by omega, Go.Sort.permIn_trans _ _ _ a b hp z1, z2⟩
            · obtain ⟨vs, s1, s2, s3, s4⟩ := hS us (c + 1) b lm (by omega) (by omega) (by omega) (by omega) hdu r5
              obtain ⟨t1, t2⟩ := r7 _ s3 s4
              rw [decide_eq_false (by omega), cond_f, s1, Option.bind_some, beq_len s2, cond_t]
              obtain ⟨ys, y1, y2, y3, y4⟩ := pdq_loop hK hS (p0 := p0) (p1 := p1) (p2 := p2) (p3 := p3) k (c - a) vs a c lm (decide ((b : Int) - (c : Int) ≥ IntKind.wrap .i64 (Int.tdiv ((b : Int) - (a : Int)) 8))) f (by omega) (by omega) (by omega) (by omega) (by omega) (by omega) (nodup_of (by omega) s3 hdu) t1
              obtain ⟨z1, z2⟩ := t2 _ y3 y4
              exact ⟨ys, y1, by omega, Go.Sort.permIn_trans _ _ _ a b hp z1, z2⟩
          by_cases ha0 : 0 < a
          · rw [decide_eq_true (by omega), cond_t, wrap_i64 (x := (a : Int) - 1) (by omega) (by omega), show (a : Int) - 1 = ((a - 1 : Nat) : Int) by omega, inR_nat (show a - 1 < ts.length by omega), cond_t, inR_nat (show q < ts.length by omega), cond_t, less, Option.bind_some]
            have hlt : lti (rdD ts ((a - 1 : Nat) : Int)) (rdD ts (q : Int)) = true := by
              have h1 : lti (rdD ts (q : Int)) (rdD ts ((a - 1 : Nat) : Int)) = false := by
                rcases hBt with h0 | h0
                · omega
                · have := h0 q g2 g3; rwa [rd_arr, rd_arr] at this
              have h2 : rdD ts (q : Int) ≠ rdD ts ((a - 1 : Nat) : Int) := by
                rw [rdD_nat _ (show q < ts.length by omega), rdD_nat _ (show a - 1 < ts.length by omega)]
                intro he
                exact (List.pairwise_iff_getElem.1 hdt) (a - 1) q (by omega) (by omega) (by omega) he.symm
              simp only [lti, decide_eq_false_iff_not, decide_eq_true_eq] at h1 ⊢
              omega
            rw [hlt]
            exact key0
          · rw [decide_eq_false (by omega), cond_f]
            exact key0
        cases t48 with
        | false => exact key68
        | true =>
          obtain ⟨f, e1, e2⟩ := partialIns hK (xs := ts) (a := a) (b := b) (by omega) hbt (by omega)
          have h4 := Go.Sort.partialInsertionSort_holds swo ts.toArray a b (by omega) hszt hBt
          rw [e2] at h4
          rw [cond_t, e1, Option.bind_some]
          dsimp only
          rw [beq_len rfl, cond_t]
          cases f with
          | true => exact ⟨ts, rfl, htl, hp, h4.2 rfl⟩
          | false => exact key68
      cases wb with
      | false => exact key51 _
      | true =>
        cases wp with
        | false => exact key51 _
        | true => exact key51 _
    cases wb with
    | true => exact key xs limit rfl (Go.Sort.permIn_refl _ _ _)
    | false =>
      obtain ⟨ts, e1, e2, e3⟩ := breaks hK (xs := xs) (a := a) (b := b) (by omega) hb (by omega)
      rw [Bool.not_false, cond_t, e1, Option.bind_some, beq_len e3, cond_t]
      exact key ts _ e3 e2
theorem pdq_good {K : Nat} (hK : 1000 ≤ K) : ∀ n : Nat, n ≤ 100 → Good (slices_pdqsortOrdered_uint16_79.g K n) n
  | 0, _ => fun xs a b limit h => by omega
  | n + 1, hn => by
    intro xs a b limit h1 h2 h3 h4 hd h5
    obtain ⟨ys, g1, g2⟩ := pdq_loop hK (pdq_good hK n (by omega)) (p0 := xs) (p1 := (a : Int)) (p2 := (b : Int)) (p3 := limit) K (b - a) xs a b limit true true (Nat.le_refl _) (by omega) (by omega) h2 h3 h4 hd h5
    refine ⟨ys, ?_, g2⟩
    rw [slices_pdqsortOrdered_uint16_79.g.eq_2, g1, Option.bind_some]
theorem pdq_more {K : Nat} (hK : 1000 ≤ K) : ∀ n : Nat, Good (slices_pdqsortOrdered_uint16_79.g K (50 + n)) 50
  | 0 => pdq_good hK 50 (by omega)
  | n + 1 => by
    intro xs a b limit h1 h2 h3 h4 hd h5
    obtain ⟨ys, g1, g2⟩ := pdq_loop hK (pdq_more hK n) (p0 := xs) (p1 := (a : Int)) (p2 := (b : Int)) (p3 := limit) K (b - a) xs a b limit true true (Nat.le_refl _) (by omega) (by omega) h2 h3 h4 hd h5
    refine ⟨ys, ?_, g2⟩
    rw [show 50 + (n + 1) = (50 + n) + 1 from rfl, slices_pdqsortOrdered_uint16_79.g.eq_2, g1, Option.bind_some]
def lenOk (K : Nat) : Bool := (List.range 50).all fun n => (bits_Len_80.f K (IntKind.wrap .u64 (n : Int))).isSome
theorem lens (K : Nat) : lenOk K = true := by kernel_rfl
theorem sort_one {K : Nat} (hK : 1000 ≤ K) {xs : List Int} (hl : xs.length ≤ 49) (hn : xs.Nodup) : slices_Sort_uint16_uint16_51.f K xs = some (sortB id xs) := by
  have h0 := List.all_eq_true.1 (lens K) xs.length (List.mem_range.2 (by omega))
  obtain ⟨l, hl2⟩ := Option.isSome_iff_exists.1 h0
  obtain ⟨q, rfl⟩ : ∃ q, K = 50 + q := ⟨K - 50, by omega⟩
  obtain ⟨ys, g1, g2, g3, g4⟩ := pdq_more hK q xs 0 xs.length l (by omega) (by omega) (Nat.le_refl _) hl hn (.inl rfl)
  unfold slices_Sort_uint16_uint16_51.f slices_pdqsortOrdered_uint16_79.f
  rw [hl2, Option.bind_some, show (0 : Int) = ((0 : Nat) : Int) from rfl, g1, Option.bind_some, beq_len g2, cond_t]
  congr 1
  have hperm : ys.Perm xs := by
    have h : (List.take xs.length ys).Perm xs := by simpa using g3.2.2
    rwa [List.take_of_length_le (by omega)] at h
  refine sortB_of id hperm (by simpa using hn) ?_
  have h5 : Go.Sort.SortedIn (fun x y : Int => decide (id x < id y)) 0 ys.toArray.size ys.toArray := by rw [size_arr, g2]; exact g4
  simpa using sorted_pair (kf := (id : Int → Int)) h5
end Go.Proofs.YtbcepghanbkncaaGreatDoor.LiT.Sr
