/- The plain law of HexfileTurned. -/
import Derived.Test.YtilgjfckgkkfmaaDoorHxHexfileTurned
import Derived.Test.YtilgjfckgkkfmaaDoorHxLibE
set_option linter.unusedVariables false
namespace Go.Proofs.YtilgjfckgkkfmaaDoor.Pure
open Go.RowKit Go.Eng Go.Proofs.YtilgjfckgkkfmaaDoor.Hx
theorem u8w {x : Int} (h : (Lit.int .u8 x).wf = true) : byt x := by
  have : 0 ≤ x ∧ x ≤ 255 := by simpa [Lit.wf, IntKind.min, IntKind.max, IntKind.bits, IntKind.signed] using h
  unfold byt; omega
theorem u16w {x : Int} (h : (Lit.int .u16 x).wf = true) : 0 ≤ x ∧ x < 65536 := by
  have : 0 ≤ x ∧ x ≤ 65535 := by simpa [Lit.wf, IntKind.min, IntKind.max, IntKind.bits, IntKind.signed] using h
  omega
theorem up : charabanclaw33_awake_10.f 1000 = some true := by kernel_rfl
theorem band16 (n : Int) : band .i64 n 65535 = n % 65536 := by
  have h1 : (BitVec.ofInt 64 n &&& BitVec.ofInt 64 65535).toNat = (n % 65536).toNat := by
    rw [BitVec.toNat_and, BitVec.toNat_ofInt, show (BitVec.ofInt 64 65535).toNat = 2 ^ 16 - 1 from rfl, Nat.and_two_pow_sub_one_eq_mod]
    omega
  have : band .i64 n 65535 = IntKind.wrap .i64 (((BitVec.ofInt 64 n &&& BitVec.ofInt 64 65535).toNat : Nat) : Int) := rfl
  rw [this, h1, IntKind.wrap_i64]
  omega
theorem ne_ba {a b : List UInt8} (h : a ≠ b) : ((ByteArray.toList (ba a)) == (ByteArray.toList (ba b))) = false := by
  rw [ByteArray.toList_eq, ByteArray.toList_eq, ba_list, ba_list]
  simpa using h
/-- Which digit it is. -/
theorem was_of {k a at_ by_ : Int} {d : List Int} {s : ByteArray} {kk : Int} (hk : inR kk s.size = true) {v : Int} (hv : 0 ≤ v ∧ v < 16) (hs : btD s kk = hxd v) :
    charabanclaw33_HexfileTurned_6.l0 1000 k a d at_ by_ s kk 1000 0 0 = some v := by
  have e : charabanclaw33_HexfileTurned_6.l0 1000 k a d at_ by_ s kk 1000 0 0 = some ((List.range 16).foldl (fun (t : Int) (i : Nat) => cond (btD D16 (i : Int) == hxd v) (i : Int) t) 0) := by
    refine loop0 (fun k' t i' => charabanclaw33_HexfileTurned_6.l0 1000 k a d at_ by_ s kk k' t i') (List.range 16) (fun (t : Int) (i : Nat) => cond (btD D16 (i : Int) == hxd v) (i : Int) t) some (fun _ _ => True) ?_ ?_ (by simp) trivial
    · intro k' t _
      show charabanclaw33_HexfileTurned_6.l0 1000 k a d at_ by_ s kk (k' + 1) t ((List.range 16).length : Int) = _
      rw [charabanclaw33_HexfileTurned_6.l0.eq_2, List.length_range]
      rfl
    · intro k' t j hj _
      refine ⟨?_, trivial⟩
      show charabanclaw33_HexfileTurned_6.l0 1000 k a d at_ by_ s kk (k' + 1) t (j : Int) = _
      rw [List.length_range] at hj
      rw [charabanclaw33_HexfileTurned_6.l0.eq_2, decide_eq_true (by omega), cond_t, show inR (j : Int) D16.size = true from inR_nat hj, cond_t, hk, cond_t, hs, wrap_nat (by omega), List.getElem_range]
      cases btD D16 (j : Int) == hxd v <;> rfl
  rw [e]
  have key : ∀ v : Fin 16, (List.range 16).foldl (fun (t : Int) (i : Nat) => cond (btD D16 (i : Int) == hxd (v.val : Int)) (i : Int) t) 0 = (v.val : Int) := by decide +kernel
  have := key ⟨v.toNat, by omega⟩
  simp only [Int.toNat_of_nonneg hv.1] at this
  rw [this]
theorem HexfileTurned (a0 : Int × Int × List Int) (a1 : Int) (a2 : Int) (w0 : ((Lit.int .u8 a0.1).wf = true ∧ ((Lit.int .u16 a0.2.1).wf = true ∧ (a0.2.2.length * 1 ≤ 140737488351232 ∧ ∀ x ∈ a0.2.2, (Lit.int .u8 x).wf = true)))) (w1 : (Lit.int .i64 a1).wf = true) (w2 : (Lit.int .u8 a2).wf = true) : ∃ K, charabanclaw33_HexfileTurned_6.f K a0.1 a0.2.1 a0.2.2 a1 a2 = some true := by
  obtain ⟨k, a, d⟩ := a0
  obtain ⟨hk, ha, _, hd⟩ := w0
  have hk : byt k := u8w hk
  have ha : 0 ≤ a ∧ a < 65536 := u16w ha
  have hd : ∀ x ∈ d, byt x := fun x hx => u8w (hd x hx)
  have hby := u8w w2
  unfold byt at hby
  refine ⟨1000, ?_⟩
  show charabanclaw33_HexfileTurned_6.f 1000 k a d a1 a2 = some true
  unfold charabanclaw33_HexfileTurned_6.f
  rw [up, Option.bind_some]
  simp only [Let, Bool.not_true, cond_f]
  by_cases h1 : (d.length : Int) > 255
  · rw [decide_eq_true h1, cond_t, cond_t]
  · rw [decide_eq_false h1, cond_f]
    have hn : d.length ≤ 255 := by omega
    have hL : lineS k a d = (strOf (lineI k a d), 0) := by unfold lineS; rw [if_neg (by omega)]
    have hbL := lineI_byt hk ha hd
    have hlen := lineI_len k a d
    rw [goLine (by omega) hk ha hd, Option.bind_some, hL, strOf_toB]
    dsimp only
    have hsz : (ba ((lineI k a d).map toB)).size = (lineI k a d).length := by rw [ba_size, List.length_map]
    rw [hsz, wrap_i64 (x := ((lineI k a d).length : Int) - 1) (by omega) (by omega), band16, Int.tmod_eq_emod_of_nonneg (a := a1 % 65536) (by omega)]
    obtain ⟨p, hp, hpl⟩ : ∃ p : Nat, a1 % 65536 % (((lineI k a d).length : Int) - 1) = (p : Int) ∧ p + 1 < (lineI k a d).length := by
      have h2 := Int.emod_nonneg (a1 % 65536) (b := ((lineI k a d).length : Int) - 1) (by omega)
      have h3 := Int.emod_lt_of_pos (a1 % 65536) (b := ((lineI k a d).length : Int) - 1) (by omega)
      exact ⟨(a1 % 65536 % (((lineI k a d).length : Int) - 1)).toNat, by omega, by omega⟩
    rw [hp, wrap_i64 (x := 1 + (p : Int)) (by omega) (by omega), show 1 + (p : Int) = ((p + 1 : Nat) : Int) by omega]
    -- the digit there
    obtain ⟨v, hv, hc⟩ : ∃ v, (0 ≤ v ∧ v < 16) ∧ (lineI k a d)[p + 1]? = some (hxd v) := by
      have hm : (lineI k a d)[p + 1]'hpl ∈ (rawI k a d ++ [sumI k a d]).flatMap twoI := by
        have : (lineI k a d)[p + 1]? = ((rawI k a d ++ [sumI k a d]).flatMap twoI)[p]? := rfl
        rw [List.getElem?_eq_getElem hpl] at this
        exact List.mem_of_getElem? this.symm
      obtain ⟨x, hx, hy⟩ := List.mem_flatMap.1 hm
      have hxb := all_byt hk ha hd x hx
      unfold byt at hxb
      rw [List.getElem?_eq_getElem hpl]
      simp only [twoI, List.mem_cons, List.not_mem_nil, or_false] at hy
      rcases hy with hy | hy
      · exact ⟨x / 16, by omega, by rw [hy]⟩
      · exact ⟨x % 16, by omega, by rw [hy]⟩
    have hbt : btD (ba ((lineI k a d).map toB)) ((p + 1 : Nat) : Int) = hxd v := by
      rw [ba_bt _ (by rw [List.length_map]; exact hpl), List.getElem_map, toB_nat (hbL _ (List.getElem_mem hpl))]
      rw [List.getElem?_eq_getElem hpl] at hc
      exact Option.some.inj hc
    rw [was_of (by rw [hsz]; exact inR_nat hpl) hv hbt, Option.bind_some]
    obtain ⟨u, hu, hu16, hne⟩ : ∃ u : Int, Int.tmod (IntKind.wrap .i64 ((IntKind.wrap .i64 (v + 1)) + (IntKind.wrap .i64 (Int.tmod a2 15)))) 16 = u ∧ (0 ≤ u ∧ u < 16) ∧ u ≠ v := by
      rw [Int.tmod_eq_emod_of_nonneg (a := a2) hby.1, wrap_i64 (x := v + 1) (by omega) (by omega), wrap_i64 (x := a2 % 15) (by omega) (by omega), wrap_i64 (by omega) (by omega), Int.tmod_eq_emod_of_nonneg (by omega)]
      exact ⟨_, rfl, by omega, by omega⟩
    rw [hu, wrap_i64 (x := u + 1) (by omega) (by omega), wrap_i64 (x := ((p + 1 : Nat) : Int) + 1) (by omega) (by omega)]
    have hD : strCut D16 u (u + 1) = ba [toB (hxd u)] := by
      have key : ∀ u : Fin 16, strCut D16 (u.val : Int) ((u.val : Int) + 1) = ba [toB (hxd (u.val : Int))] := by decide +kernel
      have := key ⟨u.toNat, by omega⟩
      simpa [Int.toNat_of_nonneg hu16.1] using this
    have hX : (strCut (ba ((lineI k a d).map toB)) 0 ((p + 1 : Nat) : Int) ++ strCut D16 u (u + 1)) ++ strCut (ba ((lineI k a d).map toB)) (((p + 1 : Nat) : Int) + 1) ((lineI k a d).length : Int) = ba (((lineI k a d).set (p + 1) (hxd u)).map toB) := by
      rw [hD, ba_cut, ba_cut, ba_app, ba_app]
      congr 1
      rw [List.set_eq_take_append_cons_drop, if_pos hpl]
      simp only [Int.toNat_natCast, Int.toNat_zero, List.drop_zero, List.map_append, List.map_cons, List.map_take, List.map_drop, List.append_assoc, List.cons_append, List.nil_append]
      rw [show (((p + 1 : Nat) : Int) + 1).toNat = p + 1 + 1 by omega, List.take_of_length_le (l := List.map toB (lineI k a d)) (i := (lineI k a d).length) (by simp)]
    have hsz1 : (strCut (ba ((lineI k a d).map toB)) 0 ((p + 1 : Nat) : Int)).size ≤ 600 := by rw [ba_cut, ba_size]; simp; omega
    have hsz2 : (strCut D16 u (u + 1)).size = 1 := by rw [hD]; rfl
    have hsz3 : (strCut (ba ((lineI k a d).map toB)) (((p + 1 : Nat) : Int) + 1) ((lineI k a d).length : Int)).size ≤ 600 := by rw [ba_cut, ba_size]; simp; omega
    rw [show (((lineI k a d).length : Int) - 1 != 0) = true by simp; omega, cond_t, cutR_of (by omega) (by omega) (by omega), cond_t, cutR_of (n := D16.size) (by omega) (by omega) (by show u + 1 ≤ 16; omega), cond_t, cat_of (by rw [hsz2]; omega), cond_t,
      cutR_of (by omega) (by omega) (by omega), cond_t, cat_of (by rw [ByteArray.size_append, hsz2]; omega), cond_t, hX]
    have hset : ∀ x ∈ (lineI k a d).set (p + 1) (hxd u), byt x := fun x hx => (List.mem_or_eq_of_mem_set hx).elim (hbL x) (fun e => e ▸ (hxd_val hu16).2)
    have hne2 : (lineI k a d)[p + 1]? ≠ some (hxd u) := by
      rw [hc]
      intro e
      exact hxd_ne hv hu16 (fun e => hne e.symm) (Option.some.inj e)
    rw [goParse (by rw [ba_size, List.length_map, List.length_set]; omega), Option.bind_some, bytes_toB hset, ne_ba ?_]
    · have h3 := parse_turned hk ha hd hpl hu16 hne2
      generalize (parseI ((lineI k a d).set (p + 1) (hxd u))).2.2.2 = er at h3
      simp only [Bool.not_false, cond_t]
      rcases h3 with rfl | rfl <;> cases (Int.tmod a2 15 == 14) <;> cases (Int.tmod a2 16 == 15) <;> rfl
    · intro e
      have h4 := congrArg (fun l : List UInt8 => l[p + 1]?) e
      simp only [List.getElem?_map, List.getElem?_set_self hpl, hc, Option.map_some, Option.some.injEq] at h4
      exact hxd_ne hu16 hv hne (toB_inj (hxd_val hu16).2 (hxd_val hv).2 h4)
end Go.Proofs.YtilgjfckgkkfmaaDoor.Pure
