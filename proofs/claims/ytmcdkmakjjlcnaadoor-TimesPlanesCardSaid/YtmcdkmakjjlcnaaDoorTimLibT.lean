/- Times: both Of's as a base and what is skipped; the bases by looking at all of them. -/
import Derived.Test.YtmcdkmakjjlcnaaDoorTimLibE
set_option linter.unusedVariables false
set_option linter.unusedSimpArgs false
namespace Go.Proofs.YtmcdkmakjjlcnaaDoor.Tim
open Go.RowKit Go.Eng
def tb (p0_0 p0_1 : Int) (p1 : Bool) : Option (Int × Bool) := cond (inR p0_1 256) (Let (fun (t13 : Int) => cond (p0_0 == 0) (some (t13, true)) (Let (fun (t21 : Bool) => cond t21 (cond (p0_1 == 54) (some ((IntKind.wrap .i64 ((IntKind.wrap .i64 (t13 + 4)) + 5)), true)) ((decode_Near_19.f 1000 p0_0 p0_1).bind fun t33 => cond t33 (some ((IntKind.wrap .i64 ((IntKind.wrap .i64 (t13 + 4)) + 8)), true)) (some ((IntKind.wrap .i64 (t13 + 4)), true)))) (Let (fun (t37 : Bool) => cond t37 ((times_bit_20.f 1000 p0_0 p0_1).bind fun t48 => some (t48, true)) (cond (p0_0 == 2) ((times_ed_21.f 1000 p0_1 p1).bind fun t54 => some (t54, true)) (some (0, false)))) (fun j40 => cond (p0_0 == 1) (j40 true) (cond (p0_0 == 5) (j40 true) (j40 (p0_0 == 6)))))) (fun j24 => cond (p0_0 == 3) (j24 true) (j24 (p0_0 == 4))))) (fun j16 => cond p1 ((times_more_18.f 1000 p0_1).bind fun t12 => j16 (IntKind.wrap .i64 ((rdD tab_0 p0_1) + t12))) (j16 (rdD tab_0 p0_1)))) none
def rb (p0_0 p0_1 : Int) (p1 : Bool) : Option (Int × Bool) := (charabancref08_Fields_22.f 1000 p0_1).bind fun yt10 => (charabancref10_row_23.f 1000 (IntKind.wrap .i64 (Int.tdiv (IntKind.wrap .i64 p0_1) 16))).bind fun t20 => cond (Nat.beq t20.length 16 && inR (Int.tmod (IntKind.wrap .i64 p0_1) 16) t20.length) (Let (fun (t31 : Int) => cond (p0_0 == 0) (some (t31, true)) (Let (fun (t39 : Bool) => cond t39 ((charabancref08_Near_25.f 1000 p0_0 p0_1).bind fun t50 => Let (fun (t52 : Int) => cond (p0_1 == 54) (some ((IntKind.wrap .i64 (t52 - 3)), true)) (some (t52, true))) (fun j55 => cond t50 (j55 (IntKind.wrap .i64 ((IntKind.wrap .i64 (t31 + 4)) + 8))) (j55 (IntKind.wrap .i64 (t31 + 4))))) (cond (p0_0 == 1) (Let (fun (t61 : Int) => Let (fun (t68 : Bool) => cond t68 (some (12, true)) (some (t61, true))) (fun j71 => cond (yt10.2.2.1 == 6) (j71 (yt10.1 == 1)) (j71 false))) (fun j64 => cond (yt10.2.2.1 == 6) (j64 15) (j64 8))) (Let (fun (t76 : Bool) => cond t76 (cond (yt10.1 == 1) (some (20, true)) (some (23, true))) (cond (p0_0 == 2) ((charabancref10_ed_26.f 1000 yt10.1 yt10.2.1 yt10.2.2.1 p1).bind fun t89 => some (t89, true)) (some (0, false)))) (fun j79 => cond (p0_0 == 5) (j79 true) (j79 (p0_0 == 6)))))) (fun j42 => cond (p0_0 == 3) (j42 true) (j42 (p0_0 == 4))))) (fun j34 => cond p1 ((charabancref10_more_24.f 1000 p0_1).bind fun t30 => j34 (IntKind.wrap .i64 ((rdD t20 (Int.tmod (IntKind.wrap .i64 p0_1) 16)) + t30))) (j34 (rdD t20 (Int.tmod (IntKind.wrap .i64 p0_1) 16))))) none
theorem map_cond {α β : Type} (c : Bool) (f : α → β) (a b : Option α) : (cond c a b).map f = cond c (a.map f) (b.map f) := by cases c <;> rfl
theorem map_bnd {α β γ : Type} (o : Option α) (g : α → Option β) (f : β → γ) : (o.bind g).map f = o.bind (fun x => (g x).map f) := by cases o <;> rfl
def up (s : Int) (x : Int × Bool) : Int := if x.2 = true then IntKind.wrap .i64 (x.1 + IntKind.wrap .i64 (4 * s)) else 0
theorem of_tb (p c d i l s : Int) (t : Bool) : times_Of_9.f 1000 p c d i l s t = (tb p c t).map (up s) := by
  unfold times_Of_9.f tb
  simp only [Let, map_cond, map_bnd, Option.map_some, Option.map_none, up, if_true, if_false, Bool.false_eq_true]
theorem of_rb (p c d i l s : Int) (t : Bool) : charabancref10_Of_10.f 1000 p c d i l s t = (rb p c t).map (up s) := by
  unfold charabancref10_Of_10.f rb
  simp only [Let, map_cond, map_bnd, Option.map_some, Option.map_none, up, if_true, if_false, Bool.false_eq_true]
theorem out_tb {p c : Int} {t : Bool} (h : p < 0 ∨ 6 < p) : tb p c t = tb 7 c t ∧ rb p c t = rb 7 c t := by
  have e0 : (p == 0) = false := by simp; omega
  have e1 : (p == 1) = false := by simp; omega
  have e2 : (p == 2) = false := by simp; omega
  have e3 : (p == 3) = false := by simp; omega
  have e4 : (p == 4) = false := by simp; omega
  have e5 : (p == 5) = false := by simp; omega
  have e6 : (p == 6) = false := by simp; omega
  constructor
  · unfold tb; simp only [Let, e0, e1, e2, e3, e4, e5, e6]; rfl
  · unfold rb; simp only [Let, e0, e1, e2, e3, e4, e5, e6]; rfl
def baseOk (p c : Int) (x y : Int × Bool) : Bool := if p = 7 then x == (0, false) && y == (0, false) else x.2 && y.2 && decide (4 ≤ x.1) && decide (x.1 ≤ 23) && (x.1 == y.1 || decide (5 ≤ y.1 - x.1) && decide (y.1 - x.1 ≤ 7))
def basesOk : Bool := (List.range 8).all fun p => (List.range 256).all fun c => match tb p c false, tb p c true, rb p c false, rb p c true with
  | some x, some y, some x', some y' => x == x' && y == y' && baseOk p c x y
  | _, _, _, _ => false
theorem bases : basesOk = true := by kernel_rfl
theorem base_in {p c : Int} (hp : 0 ≤ p ∧ p ≤ 7) (hc : 0 ≤ c ∧ c ≤ 255) : ∃ x y, tb p c false = some x ∧ tb p c true = some y ∧ rb p c false = some x ∧ rb p c true = some y ∧ baseOk p c x y = true := by
  have h1 := List.all_eq_true.1 (List.all_eq_true.1 bases p.toNat (List.mem_range.2 (by omega))) c.toNat (List.mem_range.2 (by omega))
  rw [show ((p.toNat : Nat) : Int) = p by omega, show ((c.toNat : Nat) : Int) = c by omega] at h1
  split at h1
  · rename_i x y x' y' h2 h3 h4 h5
    simp only [Bool.and_eq_true, beq_iff_eq] at h1
    obtain ⟨⟨rfl, rfl⟩, h6⟩ := h1
    exact ⟨x, y, h2, h3, h4, h5, h6⟩
  · cases h1
theorem base_at {p c : Int} (hc : 0 ≤ c ∧ c ≤ 255) : ∃ x y, tb p c false = some x ∧ tb p c true = some y ∧ rb p c false = some x ∧ rb p c true = some y ∧ baseOk (if 0 ≤ p ∧ p ≤ 6 then p else 7) c x y = true := by
  by_cases h : 0 ≤ p ∧ p ≤ 6
  · rw [if_pos h]; exact base_in (by omega) hc
  · rw [if_neg h, (out_tb (p := p) (c := c) (t := false) (by omega)).1, (out_tb (p := p) (c := c) (t := true) (by omega)).1, (out_tb (p := p) (c := c) (t := false) (by omega)).2, (out_tb (p := p) (c := c) (t := true) (by omega)).2]
    exact base_in (by omega) hc
/-- What both say. -/
def stN (p c s : Int) (t : Bool) : Int := up s ((tb p c t).getD (0, false))
theorem of_at {p c : Int} (hc : 0 ≤ c ∧ c ≤ 255) (d i l s : Int) (t : Bool) : times_Of_9.f 1000 p c d i l s t = some (stN p c s t) ∧ charabancref10_Of_10.f 1000 p c d i l s t = some (stN p c s t) := by
  obtain ⟨x, y, h1, h2, h3, h4, _⟩ := base_at (p := p) hc
  rw [of_tb, of_rb]
  unfold stN
  cases t
  · rw [h1, h3]; exact ⟨rfl, rfl⟩
  · rw [h2, h4]; exact ⟨rfl, rfl⟩
theorem asks_at {p c : Int} (hc : 0 ≤ c ∧ c ≤ 255) (d i l s : Int) : times_Asks_11.f 1000 p c d i l s = some (stN p c s true != stN p c s false) ∧ charabancref10_Asks_12.f 1000 p c d i l s = some (stN p c s true != stN p c s false) := by
  unfold times_Asks_11.f charabancref10_Asks_12.f
  rw [(of_at hc d i l s true).1, (of_at hc d i l s false).1, (of_at hc d i l s true).2, (of_at hc d i l s false).2]
  exact ⟨rfl, rfl⟩
theorem awake_eq : charabanclaw10_awake_8.f 1000 = some true := by kernel_rfl
/-! ### All -/
def sumW : Int → List Op6 → Int
  | n, [] => n
  | n, o :: l => sumW (IntKind.wrap .i64 (n + stN o.1 o.2.1 o.2.2.2.2.2 false)) l
theorem Nx_code {b : List Int} (hb : By b) (h : isN b = true) : 0 ≤ (Nx b).2.1 ∧ (Nx b).2.1 ≤ 255 := by
  have hr : By (restP b) := by rw [rest_eq]; exact hb.drop _
  have hg : ∀ i, 0 ≤ (restP b).getD i 0 ∧ (restP b).getD i 0 ≤ 255 := fun i => by
    by_cases hi : i < (restP b).length
    · simp only [List.getD, List.getElem?_eq_getElem hi, Option.getD_some]; exact hr _ (List.getElem_mem hi)
    · simp [List.getD, List.getElem?_eq_none (show (restP b).length ≤ i by omega)]
  rw [Nx_Bd]
  unfold Bd fin
  split
  · exact hg _
  · simp
theorem allF_code : ∀ (m : Nat) (b : List Int), By b → ∀ o ∈ (allF m b).1, 0 ≤ o.2.1 ∧ o.2.1 ≤ 255
  | 0, b, hb, o, ho => by simp [allF] at ho
  | m + 1, b, hb, o, ho => by
    simp only [allF] at ho
    split at ho
    · rename_i h
      rcases List.mem_cons.1 ho with rfl | h2
      · exact Nx_code hb h
      · exact allF_code m _ (hb.drop _) o h2
    · simp at ho
theorem tim_l (p0 : List Int) (xs : List Op6) (hx : ∀ o ∈ xs, 0 ≤ o.2.1 ∧ o.2.1 ≤ 255) (hl : xs.length ≤ 1000000) : ∀ (l : List Op6) (k i : Nat) (n : Int), xs.drop i = l → i ≤ xs.length → l.length < k →
    times_All_13.l0 1000 p0 xs (xs.length : Int) k n (i : Int) = some (sumW n l) ∧ charabancref10_All_14.l0 1000 p0 xs k n (i : Int) = some (sumW n l)
  | l, 0, i, n, h1, h2, h3 => by omega
  | [], k + 1, i, n, h1, h2, h3 => by
    have : xs.length ≤ i := by have := congrArg List.length h1; simp at this; omega
    rw [times_All_13.l0, charabancref10_All_14.l0, decide_eq_false (show ¬ (i : Int) < (xs.length : Int) by omega)]
    exact ⟨rfl, rfl⟩
  | o :: l, k + 1, i, n, h1, h2, h3 => by
    have hi : i < xs.length := by have := congrArg List.length h1; simp at this; omega
    have h6 : xs[i] = o := by rw [drop_at hi] at h1; exact (List.cons.inj h1).1
    have h7 : xs.drop (i + 1) = l := by rw [drop_at hi] at h1; exact (List.cons.inj h1).2
    have hc := hx xs[i] (List.getElem_mem hi)
    rw [times_All_13.l0, charabancref10_All_14.l0, decide_eq_true (show (i : Int) < (xs.length : Int) by omega), inR_nat hi, rdD_nat xs hi, (of_at hc _ _ _ _ false).1, (of_at hc _ _ _ _ false).2]
    simp only [Option.bind_some, sumW, cond_t]
    rw [wrap_nat (by omega), h6]
    exact tim_l p0 xs hx hl l k (i + 1) _ h7 (by omega) (by simp at h3; omega)
theorem all_at (b : List Int) (hb : By b) (hl : b.length ≤ 900) : times_All_13.f 1000 b = some (sumW 0 (allF 900 b).1) ∧ charabancref10_All_14.f 1000 b = some (sumW 0 (allF 900 b).1) := by
  unfold times_All_13.f charabancref10_All_14.f
  rw [dec_all b hb hl, ref_all b hb hl]
  have hn := allF_len 900 b hb
  have h := tim_l b (allF 900 b).1 (allF_code 900 b hb) (by omega) (allF 900 b).1 1000 0 0 (by simp) (by omega) (by omega)
  simp only [Option.bind_some]
  erw [h.1, h.2]
  exact ⟨rfl, rfl⟩
theorem table_eq : charabancref10_Table_16.f 1000 = some tab_0 := by kernel_rfl
end Go.Proofs.YtmcdkmakjjlcnaaDoor.Tim
