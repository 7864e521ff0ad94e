/- Where the instructions of a memory lead to: the program's row, sorted, is the reference's. -/
import Derived.Test.YtbcepghanbkncaaGreatDoorLiTLeLibA
import Derived.Test.YtbcepghanbkncaaGreatDoorEngSort
import Derived.Test.YtbcepghanbkncaaGreatDoorLiTListingLeads
set_option linter.unusedVariables false
set_option linter.unusedSimpArgs false
namespace Go.Proofs.YtbcepghanbkncaaGreatDoor.LiT.Le
open Go.RowKit Go.Eng Go.Proofs.YtbcepghanbkncaaGreatDoor.LiT
structure Okl (l : List Cel) : Prop where
  len : l.length ≤ 60
  ad : ∀ p ∈ l, 0 ≤ p.1 ∧ p.1 < 65536
  val : ∀ p ∈ l, 0 ≤ p.2 ∧ p.2 < 256
theorem get_in : ∀ {l : List Cel} (h : ∀ p ∈ l, 0 ≤ p.2 ∧ p.2 < 256) (b a : Int), 0 ≤ b ∧ b < 256 → 0 ≤ l.foldl (fun b p => if p.1 = a then p.2 else b) b ∧ l.foldl (fun b p => if p.1 = a then p.2 else b) b < 256
  | [], _, b, a, hb => hb
  | p :: l, h, b, a, hb => by
    rw [List.foldl_cons]
    refine get_in (fun q hq => h q (List.mem_cons_of_mem _ hq)) _ a ?_
    split
    · exact h p List.mem_cons_self
    · exact hb
theorem dump_by {l : List Cel} (h : Okl l) : ∀ (n : Nat) (a : Int), Dc.By (Ce.dumpC (getC l) a n)
  | 0, _ => fun x hx => absurd hx (by simp [Ce.dumpC])
  | n + 1, a => fun x hx => by
    rcases List.mem_cons.1 hx with rfl | hx
    · have := get_in h.val 0 a (by decide)
      exact ⟨this.1, by have := this.2; unfold getC; omega⟩
    · exact dump_by h n _ x hx
def row8 (l : List Cel) (a : Int) : List Int := Ce.dumpC (getC l) a 8
def lenI (l : List Cel) (a : Int) : Nat := if Dc.isN (row8 l a) then Dc.lenN (row8 l a) else 1
def byI (l : List Cel) (a : Int) : List Int := (row8 l a).take (lenI l a)
def stepI (l : List Cel) (a : Int) : Int := (a + lenI l a) % 65536
theorem lenI_in {l : List Cel} (h : Okl l) (a : Int) : 1 ≤ lenI l a ∧ lenI l a ≤ 8 := by
  unfold lenI
  split
  · rename_i hn
    have := Dc.lenN_of (dump_by h 8 a) hn
    have h8 : (row8 l a).length = 8 := Ce.dumpC_len _ _ _
    have h9 : (Ce.dumpC (getC l) a 8).length = 8 := Ce.dumpC_len _ _ _
    exact ⟨this.2.1, by have := this.2.2; unfold row8; omega⟩
  · omega
theorem byI_len {l : List Cel} (h : Okl l) (a : Int) : (byI l a).length = lenI l a := by
  have := lenI_in h a
  have h8 : (row8 l a).length = 8 := Ce.dumpC_len _ _ _
  rw [byI, List.length_take, h8]; omega
theorem step_in (l : List Cel) (a : Int) : 0 ≤ stepI l a ∧ stepI l a < 65536 := by unfold stepI; omega
def inP (r : Dc.Res) : Prop := (0 ≤ r.2.1 ∧ r.2.1 < 256) ∧ (0 ≤ r.2.2.2.1 ∧ r.2.2.2.1 < 65536)
theorem fin_in {p c d n skip : Int} {t : List Int} {fl : Bool} (hc : 0 ≤ c ∧ c ≤ 255) (ht : Dc.By t) : inP (Dc.fin p c d n skip t fl) := by
  have h0 := ht.head
  have h1 := ht.tail.head
  unfold Dc.fin
  split
  · refine ⟨⟨hc.1, by show c < 256; omega⟩, ?_⟩
    show 0 ≤ Dc.immT (Dc.sz p c) t ∧ Dc.immT (Dc.sz p c) t < 65536
    unfold Dc.immT
    split
    · omega
    · split <;> omega
  · unfold inP; decide
theorem Nx_in {b : List Int} (hb : Dc.By b) : inP (Dc.Nx b) := by
  have hr : Dc.By (Dc.restP b) := by rw [Dc.rest_eq]; exact hb.drop _
  have h0 := hr.head; have h1 := hr.tail.head; have h2 := hr.tail.tail.head
  unfold Dc.Nx
  split
  · exact fin_in h1 hr.tail.tail
  · split
    · split
      · exact fin_in h1 hr.tail.tail
      · exact fin_in h2 hr.tail.tail.tail
    · split
      · exact fin_in h0 hr.tail
      · split
        · exact fin_in h0 hr.tail.tail
        · exact fin_in h0 hr.tail
theorem at_both {l : List Cel} (h : Okl l) {a : Int} (ha : 0 ≤ a ∧ a < 65536) : ∃ p c d i n e ok, listing_at_49.f 1000 l a = some (a, byI l a, p, c, d, i, n, e, ok) ∧ charabancref34_at_33.f 1000 l a = some (p, c, d, i, n, e, byI l a, ok) ∧ (0 ≤ c ∧ c < 256) ∧ (0 ≤ i ∧ i < 65536) := by
  have hb : Dc.By (row8 l a) := dump_by h 8 a
  have hl8 : (row8 l a).length = 8 := Ce.dumpC_len _ _ _
  have hd : cells_Dump_39.f 1000 l a 8 = some (row8 l a) := Ce.goDump (by have := h.len; omega) a (by decide)
  have hn : decode_Next_77.f 1000 (row8 l a) = some (Dc.Nx (row8 l a)) := Dc.dec_next _ hb (by rw [hl8]; decide)
  have hd2 : charabancref14_Dump_22.f 1000 l a 8 = some (row8 l a) := Ce.refDump (by have := h.len; omega) ha (by decide)
  have hn2 : charabancref08_Next_53.f 1000 (row8 l a) = some (Dc.Nx (row8 l a)) := Dc.ref_next _ hb (by rw [hl8]; decide)
  unfold listing_at_49.f charabancref34_at_33.f
  rw [hd, Option.bind_some, hn, Option.bind_some, hd2, Option.bind_some, hn2, Option.bind_some]
  have hin : inP (Dc.Nx (row8 l a)) := Nx_in hb
  cases hok : Dc.isN (row8 l a) with
  | false =>
    have e1 : (Dc.Nx (row8 l a)).2.2.2.2.2.2 = false := hok
    have e2 : lenI l a = 1 := by unfold lenI; rw [hok]; rfl
    have e3 : byI l a = cutL (row8 l a) 0 1 := by rw [byI, e2]; exact (cutL_nat _ 1).symm
    refine ⟨0, 0, 0, 0, 0, 0, false, ?_, ?_, by decide, by decide⟩
    · rw [e1, Bool.not_false, cond_t, cutR_of (by decide) (by decide) (by rw [hl8]; decide), cond_t, e3]
    · rw [e1, Bool.not_false, cond_t, cutR_of (by decide) (by decide) (by rw [hl8]; decide), cond_t, e3]
  | true =>
    have e1 : (Dc.Nx (row8 l a)).2.2.2.2.2.2 = true := hok
    have e0 := Dc.lenN_of hb hok
    have e2 : lenI l a = Dc.lenN (row8 l a) := by unfold lenI; rw [hok]; rfl
    have e0' : ((Dc.lenN (row8 l a) : Nat) : Int) = (Dc.Nx (row8 l a)).2.2.2.2.1 := e0.1
    have e5 : Dc.lenN (row8 l a) ≤ (row8 l a).length := e0.2.2
    have e3 : byI l a = cutL (row8 l a) 0 (Dc.Nx (row8 l a)).2.2.2.2.1 := by rw [byI, e2, ← e0']; exact (cutL_nat _ _).symm
    refine ⟨(Dc.Nx (row8 l a)).1, (Dc.Nx (row8 l a)).2.1, (Dc.Nx (row8 l a)).2.2.1, (Dc.Nx (row8 l a)).2.2.2.1, (Dc.Nx (row8 l a)).2.2.2.2.1, (Dc.Nx (row8 l a)).2.2.2.2.2.1, true, ?_, ?_, hin.1, hin.2⟩
    · rw [e1, Bool.not_true, cond_f, cutR_of (by decide) (by omega) (by omega), cond_t, e3]
    · rw [e1, Bool.not_true, cond_f, cutR_of (by decide) (by omega) (by omega), cond_t, e3]
theorem w_step {l : List Cel} (h : Okl l) (a : Int) : IntKind.wrap .u16 (a + (IntKind.wrap .u16 ((byI l a).length : Int))) = stepI l a := by
  have := lenI_in h a
  unfold stepI
  rw [byI_len h, IntKind.wrap_u16, IntKind.wrap_u16]; omega
theorem tw_lt (t : Int) : ∀ l : List Int, ∀ x ∈ l.takeWhile (fun y => decide (y < t)), x < t
  | [], x, hx => by simp at hx
  | y :: l, x, hx => by
    rw [List.takeWhile_cons] at hx
    split at hx
    · rename_i hy
      rcases List.mem_cons.1 hx with rfl | hx
      · simpa using hy
      · exact tw_lt t l x hx
    · simp at hx
theorem dw_ge (t : Int) : ∀ l : List Int, l.Pairwise (fun a b => id a ≤ id b) → ∀ x ∈ l.dropWhile (fun y => decide (y < t)), t ≤ x
  | [], _, x, hx => by simp at hx
  | y :: l, hs, x, hx => by
    rw [List.pairwise_cons] at hs
    rw [List.dropWhile_cons] at hx
    split at hx
    · exact dw_ge t l hs.2 x hx
    · rename_i hy
      have hy : ¬ y < t := by simpa using hy
      rcases List.mem_cons.1 hx with rfl | hx
      · omega
      · have := hs.1 x hx; simp only [id] at this; omega
def insT (out : List Int) (t : Int) : List Int := out.takeWhile (fun y => decide (y < t)) ++ [t] ++ out.dropWhile (fun y => decide (y < t))
theorem split_eq (out : List Int) (t : Int) : out.takeWhile (fun y => decide (y < t)) ++ out.dropWhile (fun y => decide (y < t)) = out := List.takeWhile_append_dropWhile
theorem insT_eq {keys : List Int} (hn : keys.Nodup) {t : Int} (ht : t ∉ keys) : insT (sortB id keys) t = sortB id (keys ++ [t]) := by
  have hs := sortB_sorted id keys
  have hp := sortB_perm id keys
  have hsp := split_eq (sortB id keys) t
  refine sortB_of id ?_ ?_ ?_
  · unfold insT
    have h1 : (List.takeWhile (fun y => decide (y < t)) (sortB id keys) ++ [t] ++ List.dropWhile (fun y => decide (y < t)) (sortB id keys)).Perm (List.takeWhile (fun y => decide (y < t)) (sortB id keys) ++ (List.dropWhile (fun y => decide (y < t)) (sortB id keys) ++ [t])) := by
      rw [List.append_assoc]
      exact (List.perm_append_comm).append_left _
    refine h1.trans ?_
    rw [← List.append_assoc, hsp]
    exact hp.append_right _
  · rw [List.map_id]
    refine List.nodup_append.2 ⟨hn, by simp, fun x hx y hy hxy => ?_⟩
    rw [List.mem_singleton.1 hy] at hxy
    exact ht (hxy ▸ hx)
  · unfold insT
    have h0 := hs
    rw [← hsp, List.pairwise_append] at h0
    rw [List.append_assoc, List.pairwise_append]
    refine ⟨h0.1, ?_, fun x hx y hy => ?_⟩
    · rw [List.singleton_append, List.pairwise_cons]
      exact ⟨fun y hy => dw_ge t _ hs y hy, h0.2.1⟩
    · rcases List.mem_append.1 hy with hy | hy
      · rw [List.mem_singleton.1 hy]; have := tw_lt t _ x hx; simp only [id]; omega
      · exact h0.2.2 x hx y hy
theorem cnt_loop {p0 : List (Int × Int)} {p1 p2 t51 t55 t59 : Int} {t58 out : List Int} (hl : out.length ≤ 900) : ∀ (m k i : Nat), out.length - i = m → m < k → i ≤ out.length →
    charabancref34_Targets_12.l0 1000 p0 p1 p2 t51 out t55 t58 t59 k (i : Int) = some ((i + ((out.drop i).takeWhile (fun y => decide (y < t59))).length : Nat) : Int)
  | m, 0, i, _, hk, _ => by omega
  | m, k + 1, i, hm, hk, hi => by
    rw [charabancref34_Targets_12.l0.eq_2]
    simp only [Let]
    by_cases h : i < out.length
    · rw [decide_eq_true (by omega), cond_t, inR_nat h, cond_t, Ce.rd_drop h, List.takeWhile_cons]
      by_cases hlt : rdD out (i : Int) < t59
      · rw [decide_eq_true hlt, cond_t, if_pos rfl, wrap_i64 (by omega) (by omega), show (i : Int) + 1 = ((i + 1 : Nat) : Int) by omega, cnt_loop hl (m - 1) k (i + 1) (by omega) (by omega) (by omega), List.length_cons]
        congr 2; omega
      · rw [decide_eq_false hlt, cond_f, if_neg (by simp), List.length_nil, Nat.add_zero]
    · rw [decide_eq_false (by omega), cond_f, cond_f, List.drop_eq_nil_of_le (by omega), List.takeWhile_nil, List.length_nil, Nat.add_zero]
theorem take_tw (out : List Int) (t : Int) : out.take (out.takeWhile (fun y => decide (y < t))).length = out.takeWhile (fun y => decide (y < t)) := by
  conv => lhs; arg 2; rw [← split_eq out t]
  rw [List.take_left]
theorem drop_tw (out : List Int) (t : Int) : out.drop (out.takeWhile (fun y => decide (y < t))).length = out.dropWhile (fun y => decide (y < t)) := by
  conv => lhs; arg 2; rw [← split_eq out t]
  rw [List.drop_left]
theorem place {out : List Int} (hs : out.Pairwise (fun a b => id a ≤ id b)) (t : Int) : ((out.takeWhile (fun y => decide (y < t))).length = out.length ∧ t ∉ out) ∨ ((out.takeWhile (fun y => decide (y < t))).length < out.length ∧ (rdD out ((out.takeWhile (fun y => decide (y < t))).length : Int) = t ↔ t ∈ out)) := by
  have hd := drop_tw out t
  have hsp := split_eq out t
  have htw := tw_lt t out
  have hle : (out.takeWhile (fun y => decide (y < t))).length ≤ out.length := by
    have := congrArg List.length hsp
    rw [List.length_append] at this; omega
  by_cases h : (out.takeWhile (fun y => decide (y < t))).length < out.length
  · refine .inr ⟨h, ?_⟩
    rw [Ce.rd_drop h] at hd
    have hge := dw_ge t out hs
    rw [← hd] at hge
    constructor
    · intro he
      rw [rdD_nat _ h] at he
      rw [← he]; exact List.getElem_mem h
    · intro hm
      rw [← hsp, List.mem_append] at hm
      rcases hm with hm | hm
      · have := htw t hm; omega
      · rw [← hd] at hm
        rcases List.mem_cons.1 hm with hm | hm
        · exact hm.symm
        · have h1 := hge _ List.mem_cons_self
          have h2 : (out.dropWhile (fun y => decide (y < t))).Pairwise (fun a b => id a ≤ id b) := List.Pairwise.sublist (List.dropWhile_sublist _) hs
          rw [← hd, List.pairwise_cons] at h2
          have h3 := h2.1 t hm
          simp only [id] at h3
          omega
  · refine .inl ⟨by omega, fun hm => ?_⟩
    have h1 : out.dropWhile (fun y => decide (y < t)) = [] := by rw [← hd]; exact List.drop_eq_nil_of_le (by omega)
    rw [h1, List.append_nil] at hsp
    rw [← hsp] at hm
    have := htw t hm
    omega
theorem insK_keys (kvs : List (Int × Bool)) (t : Int) : (insK kvs t true).map Prod.fst = if t ∈ kvs.map Prod.fst then kvs.map Prod.fst else kvs.map Prod.fst ++ [t] := by
  unfold insK
  cases hf : findK kvs t with
  | some u =>
    rw [if_pos (List.mem_map.2 ⟨_, findK_mem hf, rfl⟩)]
    simp only [Option.isSome_some, cond_true, updK_keys]
  | none =>
    rw [if_neg (fun hm => by obtain ⟨p, hp, rfl⟩ := List.mem_map.1 hm; have := findK_none.1 hf p hp; simp at this)]
    simp only [Option.isSome_none, cond_false, List.map_append, List.map_cons, List.map_nil]
theorem loops {l : List Cel} (h : Okl l) {p1 q1 : Int} : ∀ (m k k' i : Nat) (kvs : List (Int × Bool)) (a : Int), 20 - i = m → m < k → m < k' → i ≤ 20 → kvs.length ≤ i → (kvs.map Prod.fst).Nodup → (0 ≤ a ∧ a < 65536) →
    ∃ (kvs' : List (Int × Bool)) (a' : Int), listing_Targets_10.l0 1000 l p1 20 k kvs a (i : Int) = some (kvs', a') ∧ charabancref34_Targets_12.l1 1000 l q1 20 k' a (sortB id (kvs.map Prod.fst)) (i : Int) = some (sortB id (kvs'.map Prod.fst)) ∧ (kvs'.map Prod.fst).Nodup ∧ kvs'.length ≤ 20
  | m, 0, k', i, kvs, a, _, hk, _, _, _, _, _ => by omega
  | m, k + 1, 0, i, kvs, a, _, _, hk, _, _, _, _ => by omega
  | m, k + 1, k' + 1, i, kvs, a, hm, hk, hk', hi, hl, hn, ha => by
    rw [listing_Targets_10.l0.eq_2, charabancref34_Targets_12.l1.eq_2, show charabancref34_many_32.f 1000 20 = some 20 from rfl, Option.bind_some, show (if (200 : Int) < 20 then (200 : Int) else 20) = 20 from rfl]
    by_cases hi2 : i < 20
    · obtain ⟨p, c, d, im, nn, e, ok, g1, g2, g3, g4⟩ := at_both h ha
      obtain ⟨t, f, t1, t2⟩ := target_eq g3 g4 p d nn e a
      have ih := fun kvs' => loops h (p1 := p1) (q1 := q1) (m - 1) k k' (i + 1) kvs' (stepI l a)
      rw [decide_eq_true (by omega), cond_t, cond_t, g1, g2, Option.bind_some, Option.bind_some]
      simp only [Let]
      rw [t1, t2, Option.bind_some, Option.bind_some, wrap_i64 (x := (i : Int) + 1) (by omega) (by omega), w_step h, show (i : Int) + 1 = ((i + 1 : Nat) : Int) by omega]
      unfold listing_one_next_34.f
      rw [w_step h, Option.bind_some, Option.bind_some]
      have noop := ih kvs (by omega) (by omega) (by omega) (by omega) (by omega) hn (step_in l a)
      cases ok with
      | false => cases f <;> exact noop
      | true =>
        cases f with
        | false => exact noop
        | true =>
          simp only [cond_t]
          have hlen : (sortB id (kvs.map Prod.fst)).length = kvs.length := by rw [(sortB_perm id _).length_eq, List.length_map]
          have hil : (insK kvs t true).length ≤ kvs.length + 1 := by
            have := congrArg List.length (insK_keys kvs t)
            rw [List.length_map] at this
            split at this <;> simp at this <;> omega
          have ins := ih (insK kvs t true) (by omega) (by omega) (by omega) (by omega) (by omega) (insK_nodup hn t true) (step_in l a)
          rw [insK_keys] at ins
          have hc := cnt_loop (p0 := l) (p1 := q1) (p2 := 20) (t51 := a) (t55 := (i : Int)) (t59 := t) (t58 := byI l a) (out := sortB id (kvs.map Prod.fst)) (by omega) _ 1000 0 rfl (by omega) (by omega)
          rw [show ((0 : Nat) : Int) = 0 from rfl, List.drop_zero, Nat.zero_add] at hc
          rw [hc, Option.bind_some]
          have hmem : t ∈ sortB id (kvs.map Prod.fst) ↔ t ∈ kvs.map Prod.fst := (sortB_perm id _).mem_iff
          have hpl := place (sortB_sorted id (kvs.map Prod.fst)) t
          have hle : ((sortB id (kvs.map Prod.fst)).takeWhile (fun y => decide (y < t))).length ≤ (sortB id (kvs.map Prod.fst)).length := by rcases hpl with hpl | hpl <;> omega
          have hT : insT (sortB id (kvs.map Prod.fst)) t = [] ++ cutL (sortB id (kvs.map Prod.fst)) 0 (((sortB id (kvs.map Prod.fst)).takeWhile (fun y => decide (y < t))).length : Int) ++ [t] ++ cutL (sortB id (kvs.map Prod.fst)) (((sortB id (kvs.map Prod.fst)).takeWhile (fun y => decide (y < t))).length : Int) ((sortB id (kvs.map Prod.fst)).length : Int) := by
            unfold insT cutL
            rw [List.nil_append, Int.toNat_natCast, Int.toNat_natCast, List.take_of_length_le (Nat.le_refl _), drop_tw, show Int.toNat 0 = 0 from rfl, List.drop_zero, take_tw]
          generalize hK : ((sortB id (kvs.map Prod.fst)).takeWhile (fun y => decide (y < t))).length = q at *
          by_cases hin : t ∈ kvs.map Prod.fst
          · rw [if_pos hin] at ins
            rcases hpl with ⟨_, hp⟩ | ⟨hp1, hp2⟩
            · exact absurd (hmem.2 hin) hp
            · rw [show (((q : Nat) : Int) == ((sortB id (kvs.map Prod.fst)).length : Int)) = false by simp; omega, cond_f, inR_nat hp1, cond_t, hp2.2 (hmem.2 hin), bne_self_eq_false, cond_f]
              exact ins
          · rw [if_neg hin] at ins
            rw [← insT_eq hn hin, hT] at ins
            have hgo : ∀ b : Bool, b = true → ∃ kvs' a', listing_Targets_10.l0 1000 l p1 20 k (insK kvs t true) (stepI l a) ((i + 1 : Nat) : Int) = some (kvs', a') ∧
                cond b (cond (cutR 0 ((q : Nat) : Int) (sortB id (kvs.map Prod.fst)).length) (cond (mayBe (([] : List Int).length + (cutL (sortB id (kvs.map Prod.fst)) 0 ((q : Nat) : Int)).length) 2) (cond (mayBe ((([] : List Int) ++ (cutL (sortB id (kvs.map Prod.fst)) 0 ((q : Nat) : Int))).length + ([t] : List Int).length) 2) (cond (cutR ((q : Nat) : Int) ((sortB id (kvs.map Prod.fst)).length : Int) (sortB id (kvs.map Prod.fst)).length) (cond (mayBe (((([] : List Int) ++ (cutL (sortB id (kvs.map Prod.fst)) 0 ((q : Nat) : Int))) ++ ([t] : List Int)).length + (cutL (sortB id (kvs.map Prod.fst)) ((q : Nat) : Int) ((sortB id (kvs.map Prod.fst)).length : Int)).length) 2) (charabancref34_Targets_12.l1 1000 l q1 20 k' (stepI l a) (((([] : List Int) ++ (cutL (sortB id (kvs.map Prod.fst)) 0 ((q : Nat) : Int))) ++ ([t] : List Int)) ++ (cutL (sortB id (kvs.map Prod.fst)) ((q : Nat) : Int) ((sortB id (kvs.map Prod.fst)).length : Int))) ((i + 1 : Nat) : Int)) none) none) none) none) none) (charabancref34_Targets_12.l1 1000 l q1 20 k' (stepI l a) (sortB id (kvs.map Prod.fst)) ((i + 1 : Nat) : Int)) = some (sortB id (kvs'.map Prod.fst)) ∧ (kvs'.map Prod.fst).Nodup ∧ kvs'.length ≤ 20 := by
              rintro b rfl
              have c1 : (cutL (sortB id (kvs.map Prod.fst)) 0 ((q : Nat) : Int)).length ≤ 20 := by rw [cutL_nat, List.length_take]; omega
              have c2 : (cutL (sortB id (kvs.map Prod.fst)) ((q : Nat) : Int) ((sortB id (kvs.map Prod.fst)).length : Int)).length ≤ 20 := by
                unfold cutL
                rw [List.length_drop, List.length_take]; omega
              rw [cond_t, cutR_of (by omega) (by omega) (by omega), cond_t, mayBe_of (by simp; omega) (by simp; omega), cond_t, mayBe_of (by simp; omega) (by simp; omega), cond_t, cutR_of (by omega) (by omega) (by omega), cond_t, mayBe_of (by simp; omega) (by simp; omega), cond_t]
              exact ins
            rcases hpl with ⟨hp, _⟩ | ⟨hp1, hp2⟩
            · rw [show (((q : Nat) : Int) == ((sortB id (kvs.map Prod.fst)).length : Int)) = true by simp; omega, cond_t]
              exact hgo true rfl
            · rw [show (((q : Nat) : Int) == ((sortB id (kvs.map Prod.fst)).length : Int)) = false by simp; omega, cond_f, inR_nat hp1, cond_t]
              exact hgo _ (by simpa using fun he => hin (hmem.1 (hp2.1 he)))
    · obtain rfl : i = 20 := by omega
      exact ⟨kvs, a, rfl, rfl, hn, hl⟩
theorem targets {l : List Cel} (h : Okl l) {a : Int} (ha : 0 ≤ a ∧ a < 65536) : ∃ ts : List Int, listing_Targets_10.f 1000 l a 20 = some ts ∧ charabancref34_Targets_12.f 1000 l a 20 = some ts ∧ ts.length ≤ 20 ∧ ts.Pairwise (fun x y => x < y) := by
  obtain ⟨kvs, a', h1, h2, h3, h4⟩ := loops h (p1 := a) (q1 := a) 20 1000 1000 0 [] a rfl (by omega) (by omega) (by omega) (by simp) (by simp) ha
  rw [show ((0 : Nat) : Int) = 0 from rfl] at h1 h2
  refine ⟨sortB id (kvs.map Prod.fst), ?_, ?_, by rw [(sortB_perm id _).length_eq, List.length_map]; exact h4, ?_⟩
  · unfold listing_Targets_10.f
    rw [h1, Option.bind_some]
    dsimp only
    rw [distB_iff.2 h3, show Nat.ble 1000 1000 = true from rfl, Nat.ble_eq_true_of_le (show kvs.length ≤ 49 by omega)]; rfl
  · unfold charabancref34_Targets_12.f
    rw [show sortB id (([] : List (Int × Bool)).map Prod.fst) = [] from rfl] at h2
    rw [h2, Option.bind_some]
  · have h5 := sortB_sorted id (kvs.map Prod.fst)
    have h6 : (sortB id (kvs.map Prod.fst)).Nodup := ((sortB_perm id _).nodup_iff).2 h3
    refine (h5.and h6).imp ?_
    intro x y hxy
    have := hxy.1
    have := hxy.2
    simp only [id] at *
    omega
theorem rising {p0 : List (Int × Int)} {p1 x0 x1 x2 x3 x4 x5 t34 t36 : Int} {t35 t37 : Bool} {ts : List Int} (hl : ts.length ≤ 20) (hs : ts.Pairwise (fun x y => x < y)) : ∀ (m k i : Nat), ts.length - i = m → m < k → 1 ≤ i → i ≤ 900 → charabanclaw34_ListingLeads_3.l0 1000 p0 p1 x0 x1 x2 x3 x4 x5 t34 t35 t36 t37 ts k (i : Int) = some (Lp.go ())
  | m, 0, i, _, hk, _, _ => by omega
  | m, k + 1, i, hm, hk, hi, hi2 => by
    rw [charabanclaw34_ListingLeads_3.l0.eq_2]
    by_cases h : i < ts.length
    · have hlt : rdD ts ((i - 1 : Nat) : Int) < rdD ts (i : Int) := by
        rw [rdD_nat _ h, rdD_nat _ (show i - 1 < ts.length by omega)]
        exact (List.pairwise_iff_getElem.1 hs) (i - 1) i (by omega) h (by omega)
      rw [decide_eq_true (by omega), cond_t, inR_nat h, cond_t, wrap_i64 (x := (i : Int) - 1) (by omega) (by omega), show (i : Int) - 1 = ((i - 1 : Nat) : Int) by omega, inR_nat (show i - 1 < ts.length by omega), cond_t, decide_eq_false (by omega), cond_f, wrap_i64 (by omega) (by omega)]
      exact rising hl hs (m - 1) k (i + 1) (by omega) (by omega) (by omega) (by omega)
    · rw [decide_eq_false (by omega), cond_f]
theorem words_loop {ts : List Int} (hl : ts.length ≤ 20) : ∀ (m k i : Nat), ts.length - i = m → m < k → i ≤ 900 → charabancref34_Words_11.l0 1000 ts ts k (i : Int) = some (Lp.go ())
  | m, 0, i, _, hk, _ => by omega
  | m, k + 1, i, hm, hk, hi2 => by
    rw [charabancref34_Words_11.l0.eq_2]
    by_cases h : i < ts.length
    · rw [decide_eq_true (by omega), cond_t, inR_nat h, cond_t, cond_t, bne_self_eq_false, cond_f, wrap_i64 (by omega) (by omega)]
      exact words_loop hl (m - 1) k (i + 1) (by omega) (by omega) (by omega)
    · rw [decide_eq_false (by omega), cond_f]
theorem words_self {ts : List Int} (hl : ts.length ≤ 20) : charabancref34_Words_11.f 1000 ts ts = some true := by
  unfold charabancref34_Words_11.f
  have := words_loop hl _ 1000 0 rfl (by omega) (by omega)
  rw [show ((0 : Nat) : Int) = 0 from rfl] at this
  rw [bne_self_eq_false, cond_f, this]; rfl
end Go.Proofs.YtbcepghanbkncaaGreatDoor.LiT.Le
