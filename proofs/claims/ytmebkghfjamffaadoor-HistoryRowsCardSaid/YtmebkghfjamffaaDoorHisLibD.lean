/- Accesses: whether they meet, and their texts: both. -/
import Derived.Test.YtmebkghfjamffaaDoorHisLibC
set_option linter.unusedVariables false
set_option linter.unusedSimpArgs false
set_option maxHeartbeats 1000000
namespace Go.Proofs.YtmebkghfjamffaaDoor.His
open Go.RowKit Go.Eng
/-! ### first and last -/
def fI (l : List Ev) (m : Int) : Int := match l.findIdx? (fun e => e.2.1 == m) with | some j => ((j : Nat) : Int) | none => -1
def lI (l : List Ev) (m : Int) : Nat → Int
  | 0 => -1
  | n + 1 => if ((rdD l (n : Int)).2.1 == m) = true then (n : Int) else lI l m n
theorem fI_in (l : List Ev) (m : Int) : -1 ≤ fI l m ∧ fI l m < l.length := by
  unfold fI
  split
  · rename_i j hj
    have := (List.findIdx?_eq_some_iff_getElem.1 hj).1
    omega
  · omega
theorem lI_in (l : List Ev) (m : Int) : ∀ n, -1 ≤ lI l m n ∧ lI l m n < n
  | 0 => by simp [lI]
  | n + 1 => by
    have := lI_in l m n
    rw [lI]
    split <;> omega
theorem firstQ (l : List Ev) (m : Int) (hl : l.length ≤ 900) : charabancref29_first_51.f 1000 l m = some (fI l m) := by
  unfold charabancref29_first_51.f
  have := search0 (fun k t => charabancref29_first_51.l0 1000 l m k t) l (l.length : Int) rfl (fun x => x.2.1 == m) (fun t => t) (by omega) (fun k t => rfl) (K := 1000) (by omega)
  rw [this]
  unfold fI
  cases l.findIdx? (fun e => e.2.1 == m) <;> rfl
theorem lastQ_l (l : List Ev) (m : Int) (hl : l.length ≤ 900) : ∀ (n f : Nat), n ≤ l.length → n < f → charabancref29_last_52.l0 1000 l m f ((n : Int) - 1) = some (if lI l m n < 0 then Lp.go () else Lp.ret (lI l m n))
  | 0, 0, h1, h2 => by omega
  | 0, f + 1, h1, h2 => by
    rw [charabancref29_last_52.l0, decide_eq_false (by omega), cond_f]
    rfl
  | n + 1, 0, h1, h2 => by omega
  | n + 1, f + 1, h1, h2 => by
    rw [charabancref29_last_52.l0, show ((n + 1 : Nat) : Int) - 1 = (n : Int) by omega, decide_eq_true (by omega), cond_t, cond_of (inR_nat (by omega)), wrap_i64 (by omega) (by omega), lastQ_l l m hl n f (by omega) (by omega), lI]
    cases ((rdD l (n : Int)).2.1 == m) with
    | true => rw [cond_t, if_pos rfl, if_neg (by omega)]
    | false => simp only [cond_f, Bool.false_eq_true, if_false]
theorem lastQ (l : List Ev) (m : Int) (hl : l.length ≤ 900) : charabancref29_last_52.f 1000 l m = some (lI l m l.length) := by
  unfold charabancref29_last_52.f
  rw [wrap_i64 (by omega) (by omega), lastQ_l l m hl l.length 1000 (by omega) (by omega)]
  have := lI_in l m l.length
  by_cases h : lI l m l.length < 0
  · rw [if_pos h, show lI l m l.length = -1 by omega]; rfl
  · rw [if_neg h]; rfl
def fs (l : List Ev) (i : Nat) : List Int := [fI (l.take i) 0, fI (l.take i) 1, fI (l.take i) 2, fI (l.take i) 3]
def l0I (l : List Ev) (i : Nat) (m : Int) : Int := if lI l m i < 0 then 0 else lI l m i
def ls (l : List Ev) (i : Nat) : List Int := [l0I l i 0, l0I l i 1, l0I l i 2, l0I l i 3]
theorem fI_snoc (l : List Ev) (e : Ev) (m : Int) : fI (l ++ [e]) m = if fI l m < 0 ∧ e.2.1 = m then (l.length : Int) else fI l m := by
  unfold fI
  rw [List.findIdx?_append]
  cases h : l.findIdx? (fun e => e.2.1 == m) with
  | some j => simp; intro h; omega
  | none =>
    by_cases he : e.2.1 = m
    · simp [he]
    · simp [he]
theorem meetH_l (l : List Ev) (hl : l.length ≤ 900) : ∀ (f i : Nat), i ≤ l.length → l.length - i < f → history_Meets_21.l1 1000 l f (fs l i) (ls l i) (i : Int) = some (fs l l.length, ls l l.length)
  | 0, i, h1, h2 => by omega
  | f + 1, i, h1, h2 => by
    rw [history_Meets_21.l1]
    by_cases hi : i < l.length
    · have ih := meetH_l l hl f (i + 1) (by omega) (by omega)
      rw [decide_eq_true (by omega), cond_t, cond_of (inR_nat hi), rdD_nat l hi, known_at, Option.bind_some, wrap_nat (by omega)]
      have ht := List.take_succ_eq_append_getElem hi
      have hlt : (l.take i).length = i := by rw [List.length_take]; omega
      have hrd : (rdD l (i : Int)) = l[i] := rdD_nat l hi
      by_cases hm : 0 ≤ (l[i]).2.1 ∧ (l[i]).2.1 < 4
      · rw [decide_eq_true hm, Bool.not_true, cond_f, cond_of (inR_iff.2 ⟨hm.1, by omega⟩)]
        have hin4 : ∀ xs : List Int, xs.length = 4 → inR (l[i]).2.1 xs.length = true := fun xs hx => inR_iff.2 ⟨hm.1, by omega⟩
        rw [hin4 _ rfl, hin4 _ rfl, cond_t, cond_t, cond_t]
        have e1 : (cond (decide ((rdD (fs l i) (l[i]).2.1) < 0)) (stD (fs l i) (l[i]).2.1 (i : Int)) (fs l i)) = fs l (i + 1) := by
          unfold fs
          rw [ht]
          simp only [fI_snoc, hlt]
          have : (l[i]).2.1 = 0 ∨ (l[i]).2.1 = 1 ∨ (l[i]).2.1 = 2 ∨ (l[i]).2.1 = 3 := by omega
          rcases this with h | h | h | h <;> rw [h] <;> simp only [rdD, stD, show Int.toNat 0 = 0 from rfl, show Int.toNat 1 = 1 from rfl, show Int.toNat 2 = 2 from rfl, show Int.toNat 3 = 3 from rfl, List.getD_cons_zero, List.getD_cons_succ, List.set_cons_zero, List.set_cons_succ]
          · by_cases hc : fI (l.take i) 0 < 0 <;> simp [hc]
          · by_cases hc : fI (l.take i) 1 < 0 <;> simp [hc]
          · by_cases hc : fI (l.take i) 2 < 0 <;> simp [hc]
          · by_cases hc : fI (l.take i) 3 < 0 <;> simp [hc]
        have e2 : stD (ls l i) (l[i]).2.1 (i : Int) = ls l (i + 1) := by
          unfold ls l0I
          simp only [lI, hrd]
          have : (l[i]).2.1 = 0 ∨ (l[i]).2.1 = 1 ∨ (l[i]).2.1 = 2 ∨ (l[i]).2.1 = 3 := by omega
          rcases this with h | h | h | h <;> rw [h] <;> simp only [stD, show Int.toNat 0 = 0 from rfl, show Int.toNat 1 = 1 from rfl, show Int.toNat 2 = 2 from rfl, show Int.toNat 3 = 3 from rfl, List.set_cons_zero, List.set_cons_succ] <;> simp <;> omega
        rw [e2]
        cases hc : decide ((rdD (fs l i) (l[i]).2.1) < 0) with
        | true => rw [hc, cond_t] at e1; rw [cond_t, e1]; exact ih
        | false => rw [hc, cond_f] at e1; rw [cond_f, e1]; exact ih
      · rw [decide_eq_false hm, Bool.not_false, cond_t]
        have e1 : fs l i = fs l (i + 1) := by
          unfold fs
          rw [ht]
          simp only [fI_snoc]
          rw [if_neg (by omega), if_neg (by omega), if_neg (by omega), if_neg (by omega)]
        have e2 : ls l i = ls l (i + 1) := by
          unfold ls l0I
          simp only [lI, hrd]
          rw [if_neg (show ¬ ((l[i]).2.1 == 0) = true by simp; omega), if_neg (show ¬ ((l[i]).2.1 == 1) = true by simp; omega), if_neg (show ¬ ((l[i]).2.1 == 2) = true by simp; omega), if_neg (show ¬ ((l[i]).2.1 == 3) = true by simp; omega)]
        rw [e1, e2]
        exact ih
    · obtain rfl : i = l.length := by omega
      rw [decide_eq_false (by omega), cond_f]
/-- Has each some ahead of, and behind, another one's? -/
def prB (l : List Ev) (a : Int) : Bool := [(1 : Int), 2, 3].any fun b => decide (fI l a < fI l b) && decide (lI l a l.length > lI l b l.length)
def meetV (l : List Ev) : Bool := !(decide (fI l 1 < 0) || decide (fI l 2 < 0) || decide (fI l 3 < 0)) && (prB l 1 || prB l 2 || prB l 3)
theorem meetQ (l : List Ev) (hl : l.length ≤ 900) : charabancref29_Meets_22.f 1000 l = some (meetV l) := by
  unfold charabancref29_Meets_22.f
  have s0 : ∀ (k : Nat) (m : Int), m < 4 → charabancref29_Meets_22.l0 1000 l (k + 1) m = cond (decide (fI l m < 0)) (some (Lp.ret ())) (charabancref29_Meets_22.l0 1000 l k (IntKind.wrap .i64 (m + 1))) := fun k m hm => by
    rw [charabancref29_Meets_22.l0, decide_eq_true hm, cond_t, firstQ l m hl, Option.bind_some]
  have s0e : ∀ k, charabancref29_Meets_22.l0 1000 l (k + 1) 4 = some (Lp.go ()) := fun k => by rw [charabancref29_Meets_22.l0]; rfl
  have s1 : ∀ (k : Nat) (a b : Int), b < 4 → charabancref29_Meets_22.l1 1000 l a (k + 1) b = cond (decide (fI l a < fI l b) && decide (lI l a l.length > lI l b l.length)) (some (Lp.ret ())) (charabancref29_Meets_22.l1 1000 l a k (IntKind.wrap .i64 (b + 1))) := fun k a b hb => by
    rw [charabancref29_Meets_22.l1, decide_eq_true hb, cond_t, firstQ l a hl, firstQ l b hl, lastQ l a hl, lastQ l b hl]
    simp only [Option.bind_some, Let]
    by_cases hab : a = b
    · subst hab
      rw [bne_self_eq_false, cond_f, decide_eq_false (show ¬ fI l a < fI l a by omega), Bool.false_and]
    · rw [show (a != b) = true by simpa using hab, cond_t]
      cases decide (fI l a < fI l b) <;> rfl
  have s1e : ∀ k a, charabancref29_Meets_22.l1 1000 l a (k + 1) 4 = some (Lp.go ()) := fun k a => by rw [charabancref29_Meets_22.l1]; rfl
  have w1 : IntKind.wrap .i64 ((1 : Int) + 1) = 2 := rfl
  have w2 : IntKind.wrap .i64 ((2 : Int) + 1) = 3 := rfl
  have w3 : IntKind.wrap .i64 ((3 : Int) + 1) = 4 := rfl
  have r1 : ∀ a, charabancref29_Meets_22.l1 1000 l a 1000 1 = cond (prB l a) (some (Lp.ret ())) (some (Lp.go ())) := fun a => by
    rw [s1 999 a 1 (by decide), w1, s1 998 a 2 (by decide), w2, s1 997 a 3 (by decide), w3, s1e 996 a]
    simp only [prB, List.any_cons, List.any_nil, Bool.or_false]
    cases (decide (fI l a < fI l 1) && decide (lI l a l.length > lI l 1 l.length)) <;> cases (decide (fI l a < fI l 2) && decide (lI l a l.length > lI l 2 l.length)) <;> rfl
  have s2 : ∀ (k : Nat) (a : Int), a < 4 → charabancref29_Meets_22.l2 1000 l (k + 1) a = cond (prB l a) (some (Lp.ret ())) (charabancref29_Meets_22.l2 1000 l k (IntKind.wrap .i64 (a + 1))) := fun k a ha => by
    rw [charabancref29_Meets_22.l2, decide_eq_true ha, cond_t, r1]
    cases prB l a <;> rfl
  have s2e : ∀ k, charabancref29_Meets_22.l2 1000 l (k + 1) 4 = some (Lp.go ()) := fun k => by rw [charabancref29_Meets_22.l2]; rfl
  rw [s0 999 1 (by decide), w1, s0 998 2 (by decide), w2, s0 997 3 (by decide), w3, s0e 996, s2 999 1 (by decide), w1, s2 998 2 (by decide), w2, s2 997 3 (by decide), w3, s2e 996]
  unfold meetV
  generalize prB l 1 = c1
  generalize prB l 2 = c2
  generalize prB l 3 = c3
  cases decide (fI l 1 < 0) <;> cases decide (fI l 2 < 0) <;> cases decide (fI l 3 < 0) <;> cases c1 <;> cases c2 <;> cases c3 <;> rfl
theorem meetH (l : List Ev) (hl : l.length ≤ 900) : history_Meets_21.f 1000 l = some (meetV l) := by
  unfold history_Meets_21.f
  have h0 : history_Meets_21.l0 1000 l 1000 (List.replicate 4 0) 0 = some (fs l 0) := rfl
  have h1 := meetH_l l hl 1000 0 (by omega) (by omega)
  have hz : ls l 0 = List.replicate 4 0 := rfl
  rw [hz] at h1
  rw [h0, Option.bind_some]
  erw [h1]
  rw [Option.bind_some]
  have hfs : fs l l.length = [fI l 0, fI l 1, fI l 2, fI l 3] := by unfold fs; rw [List.take_of_length_le (Nat.le_refl _)]
  have hls : ls l l.length = [l0I l l.length 0, l0I l l.length 1, l0I l l.length 2, l0I l l.length 3] := rfl
  simp only [hfs, hls]
  rw [show Nat.beq [fI l 0, fI l 1, fI l 2, fI l 3].length 4 = true from rfl, cond_t]
  have f0 := fI_in l 0; have f1 := fI_in l 1; have f2 := fI_in l 2; have f3 := fI_in l 3
  have hcut : cutL [fI l 0, fI l 1, fI l 2, fI l 3] 1 4 = [fI l 1, fI l 2, fI l 3] := rfl
  have hcon : slices_Contains_int_int_50.f 1000 [fI l 1, fI l 2, fI l 3] (-1) = some (decide (fI l 1 < 0) || decide (fI l 2 < 0) || decide (fI l 3 < 0)) := by
    unfold slices_Contains_int_int_50.f slices_Index_int_int_91.f
    have g := search0 (fun k t => slices_Index_int_int_91.l0 1000 [fI l 1, fI l 2, fI l 3] (-1) k t) [fI l 1, fI l 2, fI l 3] (([fI l 1, fI l 2, fI l 3].length : Nat) : Int) rfl (fun x => (-1 : Int) == x) (fun t => t) (by simp) (fun k t => rfl) (K := 1000) (by simp)
    rw [g]
    have e : ∀ x : Int, -1 ≤ x → ((-1 : Int) == x) = decide (x < 0) := fun x hx => by
      by_cases h : x < 0
      · rw [decide_eq_true h, show x = -1 by omega]; rfl
      · rw [decide_eq_false h]; simp; omega
    simp only [List.findIdx?_cons, List.findIdx?_nil, e _ f1.1, e _ f2.1, e _ f3.1]
    cases decide (fI l 1 < 0) <;> cases decide (fI l 2 < 0) <;> cases decide (fI l 3 < 0) <;> rfl
  rw [hcut, hcon, Option.bind_some]
  cases hq : (decide (fI l 1 < 0) || decide (fI l 2 < 0) || decide (fI l 3 < 0)) with
  | true => rw [cond_t]; unfold meetV; rw [hq]; rfl
  | false =>
    rw [cond_f]
    simp only [Bool.or_eq_false_iff, decide_eq_false_iff_not] at hq
    have hlast : ∀ m, ¬ fI l m < 0 → l0I l l.length m = lI l m l.length := fun m hm => by
      have key : ∀ n, n ≤ l.length → lI l m n < 0 → ∀ j, j < n → ((rdD l (j : Int)).2.1 == m) = false := by
        intro n
        induction n with
        | zero => intro _ _ j hj; omega
        | succ n ih =>
          intro hn hlt j hj
          rw [lI] at hlt
          by_cases hc : ((rdD l (n : Int)).2.1 == m) = true
          · rw [if_pos hc] at hlt; omega
          · rw [if_neg hc] at hlt
            by_cases hjn : j = n
            · subst hjn; simpa using hc
            · exact ih (by omega) hlt j (by omega)
      unfold l0I
      by_cases hz : lI l m l.length < 0
      · exfalso
        have hn := key l.length (Nat.le_refl _) hz
        unfold fI at hm
        cases hf : l.findIdx? (fun e => e.2.1 == m) with
        | none => rw [hf] at hm; exact hm (by decide)
        | some j =>
          obtain ⟨hj, hp, _⟩ := List.findIdx?_eq_some_iff_getElem.1 hf
          have := hn j hj
          rw [rdD_nat l hj] at this
          rw [this] at hp
          cases hp
      · rw [if_neg hz]
    have g1 := hlast 1 hq.1.1
    have g2 := hlast 2 hq.1.2
    have g3 := hlast 3 hq.2
    rw [g1, g2, g3]
    have hF : ∀ (m : Int), m = 1 ∨ m = 2 ∨ m = 3 → rdD [fI l 0, fI l 1, fI l 2, fI l 3] m = fI l m := fun m hm => by rcases hm with rfl | rfl | rfl <;> rfl
    have hL : ∀ (m : Int), m = 1 ∨ m = 2 ∨ m = 3 → rdD [l0I l l.length 0, lI l 1 l.length, lI l 2 l.length, lI l 3 l.length] m = lI l m l.length := fun m hm => by rcases hm with rfl | rfl | rfl <;> rfl
    generalize hFs : [fI l 0, fI l 1, fI l 2, fI l 3] = Fs at hF ⊢
    generalize hLs : [l0I l l.length 0, lI l 1 l.length, lI l 2 l.length, lI l 3 l.length] = Ls at hL ⊢
    have l4 : Fs.length = 4 := by rw [← hFs]; rfl
    have l5 : Ls.length = 4 := by rw [← hLs]; rfl
    have in1 : ∀ m : Int, m = 1 ∨ m = 2 ∨ m = 3 → inR m 4 = true := fun m hm => by rcases hm with rfl | rfl | rfl <;> rfl
    have s1 : ∀ (k : Nat) (a b : Int), (a = 1 ∨ a = 2 ∨ a = 3) → (b = 1 ∨ b = 2 ∨ b = 3) → history_Meets_21.l2 1000 l Fs Ls a (k + 1) b = cond (decide (fI l a < fI l b) && decide (lI l a l.length > lI l b l.length)) (some (Lp.ret ())) (history_Meets_21.l2 1000 l Fs Ls a k (IntKind.wrap .i64 (b + 1))) := fun k a b ha hb => by
      rw [history_Meets_21.l2, decide_eq_true (by omega), cond_t, l4, l5, in1 a ha, in1 b hb, hF a ha, hF b hb, hL a ha, hL b hb]
      simp only [Let, cond_t]
      cases decide (fI l a < fI l b) <;> rfl
    have s1e : ∀ k a, history_Meets_21.l2 1000 l Fs Ls a (k + 1) 4 = some (Lp.go ()) := fun k a => by rw [history_Meets_21.l2]; rfl
    have w1 : IntKind.wrap .i64 ((1 : Int) + 1) = 2 := rfl
    have w2 : IntKind.wrap .i64 ((2 : Int) + 1) = 3 := rfl
    have w3 : IntKind.wrap .i64 ((3 : Int) + 1) = 4 := rfl
    have r1 : ∀ a, (a = 1 ∨ a = 2 ∨ a = 3) → history_Meets_21.l2 1000 l Fs Ls a 1000 1 = cond (prB l a) (some (Lp.ret ())) (some (Lp.go ())) := fun a ha => by
      rw [s1 999 a 1 ha (by decide), w1, s1 998 a 2 ha (by decide), w2, s1 997 a 3 ha (by decide), w3, s1e 996 a]
      simp only [prB, List.any_cons, List.any_nil, Bool.or_false]
      cases (decide (fI l a < fI l 1) && decide (lI l a l.length > lI l 1 l.length)) <;> cases (decide (fI l a < fI l 2) && decide (lI l a l.length > lI l 2 l.length)) <;> rfl
    have s2 : ∀ (k : Nat) (a : Int), (a = 1 ∨ a = 2 ∨ a = 3) → history_Meets_21.l3 1000 l Fs Ls (k + 1) a = cond (prB l a) (some (Lp.ret ())) (history_Meets_21.l3 1000 l Fs Ls k (IntKind.wrap .i64 (a + 1))) := fun k a ha => by
      rw [history_Meets_21.l3, decide_eq_true (by omega), cond_t, r1 a ha]
      cases prB l a <;> rfl
    have s2e : ∀ k, history_Meets_21.l3 1000 l Fs Ls (k + 1) 4 = some (Lp.go ()) := fun k => by rw [history_Meets_21.l3]; rfl
    rw [s2 999 1 (by decide), w1, s2 998 2 (by decide), w2, s2 997 3 (by decide), w3, s2e 996]
    unfold meetV
    rw [decide_eq_false hq.1.1, decide_eq_false hq.1.2, decide_eq_false hq.2]
    generalize prB l 1 = c1
    generalize prB l 2 = c2
    generalize prB l 3 = c3
    cases c1 <;> cases c2 <;> cases c3 <;> rfl
end Go.Proofs.YtmebkghfjamffaaDoor.His
