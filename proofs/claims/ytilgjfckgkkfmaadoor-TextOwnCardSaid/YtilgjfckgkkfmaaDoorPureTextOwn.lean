/- The plain law of TextOwn. -/
import Derived.Test.YtilgjfckgkkfmaaDoorTexTextOwn
import Derived.Test.YtilgjfckgkkfmaaDoorTexLibF
set_option linter.unusedVariables false
namespace Go.Proofs.YtilgjfckgkkfmaaDoor.Pure
open Go.RowKit Go.Eng Go.Proofs.YtilgjfckgkkfmaaDoor.Tex
theorem ne_ba {a b : List UInt8} (h : a ≠ b) : ((ByteArray.toList (ba a)) == (ByteArray.toList (ba b))) = false := by
  rw [ByteArray.toList_eq, ByteArray.toList_eq, ba_list, ba_list]
  simpa using h
/-- The bare codes below one. -/
def bares (c : Nat) : List Nat := (List.range c).filter bareN
theorem bares_succ (c : Nat) : bares (c + 1) = if bareN c = true then bares c ++ [c] else bares c := by
  unfold bares
  rw [List.range_succ, List.filter_append]
  by_cases h : bareN c = true
  · rw [if_pos h]; simp [h]
  · rw [if_neg h]; simp [h]
section
variable (d i : Int)
def txt (c : Nat) : List UInt8 := (mk0 c).flatMap (sig i d 120)
def seen (c : Nat) : List ByteArray := (bares c).map (fun k => ba (txt d i k))
theorem seen_new {L : List Nat} {s : List UInt8} (h : ∀ k ∈ L, txt d i k ≠ s) (a b : Int) : ∀ (m k j : Nat), j ≤ L.length → L.length - j = m → m < k → L.length < 1000 →
    charabanclaw09_TextOwn_9.l0 1000 d i (L.map (fun k => ba (txt d i k))) a b (ba s) k (j : Int) = some (Lp.go ())
  | m, 0, j, _, _, h, _ => by omega
  | m, k + 1, j, h1, h2, h3, h4 => by
    rw [charabanclaw09_TextOwn_9.l0.eq_2, List.length_map]
    by_cases hj : j < L.length
    · rw [decide_eq_true (by omega), cond_t, inR_nat hj, cond_t, rdD_nat _ (by rw [List.length_map]; exact hj), List.getElem_map, ne_ba (h _ (List.getElem_mem hj)), cond_f, wrap_i64 (by omega) (by omega)]
      exact seen_new h a b (m - 1) k (j + 1) (by omega) (by omega) (by omega) h4
    · rw [decide_eq_false (by omega)]; rfl
theorem xy_all {a b : List UInt8} (h : XY a b) (t : List ByteArray) (c : Int) : ∀ (m k j : Nat), j ≤ a.length → a.length - j = m → m < k → a.length < 1000 →
    charabanclaw09_TextOwn_9.l1 1000 d i t c (ba a) (ba b) k (j : Int) = some (Lp.go ())
  | m, 0, j, _, _, h, _ => by omega
  | m, k + 1, j, h1, h2, h3, h4 => by
    rw [charabanclaw09_TextOwn_9.l1.eq_2, ba_size, ba_size]
    by_cases hj : j < a.length
    · have hj2 : j < b.length := by rw [← h.len]; exact hj
      rw [decide_eq_true (by omega), cond_t, inR_nat hj, cond_t, inR_nat hj2, cond_t, ba_bt a hj, ba_bt b hj2, wrap_i64 (by omega) (by omega)]
      have ih := xy_all h t c (m - 1) k (j + 1) (by omega) (by omega) (by omega) h4
      simp only [Let]
      rcases h.get j hj hj2 with e | ⟨e1, e2⟩
      · rw [e, bne_self_eq_false, cond_f, cond_f]; exact ih
      · rw [e1, e2]; exact ih
    · rw [decide_eq_false (by omega)]; rfl
end
theorem bare_eq (c : Nat) (d i : Int) : charabancref08_Bare_28.f 1000 0 (c : Int) d i 0 0 = some (bareN c) := by
  have e : ∀ n : Nat, ((c : Int) != (n : Int)) = (c != n) := by
    intro n
    by_cases h : c = n
    · subst h; simp
    · have h1 : ((c : Int) != (n : Int)) = true := by simp; omega
      have h2 : (c != n) = true := by simp; omega
      rw [h1, h2]
  have e1 := e 203; have e2 := e 237; have e3 := e 221; have e4 := e 253
  unfold charabancref08_Bare_28.f bareN
  simp only [Let]
  rw [show ((203 : Nat) : Int) = 203 from rfl] at e1
  rw [show ((237 : Nat) : Int) = 237 from rfl] at e2
  rw [show ((221 : Nat) : Int) = 221 from rfl] at e3
  rw [show ((253 : Nat) : Int) = 253 from rfl] at e4
  rw [e1, e2, e3, e4]
  cases c != 203 <;> cases c != 237 <;> cases c != 221 <;> cases c != 253 <;> rfl
theorem bares_len : (bares 256).length = 252 := by kernel_rfl
theorem bares_le (c : Nat) : (bares c).length ≤ c := by
  have := List.length_filter_le bareN (List.range c)
  rw [List.length_range] at this
  exact this
theorem quar_len {rp ra rg hx : Nat → List UInt8} {N NN TO : List UInt8} (h : Short rp ra rg hx N NN TO) {x y z : Nat} (hy : y < 8) (hz : z < 8) : (quarT rp ra rg hx N NN TO x y z).length < 300 := by
  obtain ⟨l1, l2, l3, lr, lp, la, lx⟩ := h
  have ry := lr y hy; have rz := lr z hz; have p2 := lp 2 (by omega); have py := lp (y / 2) (by omega); have ay := la (y / 2) (by omega); have xy := lx (8 * y)
  have s := sum_len y hy
  have cn := cond_len y hy; have cn4 := cond_len (y - 4) (by omega); have tl := turn_len y hy
  unfold quarT
  split
  · unfold lowT
    split
    · split
      · simp only [List.length_append, List.length_cons, List.length_nil]; omega
      · rcases (by omega : y = 0 ∨ y = 1 ∨ y = 2 ∨ y = 3) with rfl | rfl | rfl | rfl <;> simp only [List.getD_cons_zero, List.getD_cons_succ, List.length_append, List.length_cons, List.length_nil] <;> omega
    · split <;> simp only [List.length_append, List.length_cons, List.length_nil] <;> omega
    · rcases (by omega : y = 0 ∨ y = 1 ∨ y = 2 ∨ y = 3 ∨ y = 4 ∨ y = 5 ∨ y = 6 ∨ y = 7) with rfl | rfl | rfl | rfl | rfl | rfl | rfl | rfl <;> simp only [List.getD_cons_zero, List.getD_cons_succ, List.length_append, List.length_cons, List.length_nil] <;> omega
    · split <;> simp only [List.length_append, List.length_cons, List.length_nil] <;> omega
    all_goals (try simp only [List.length_append, List.length_cons, List.length_nil]) <;> omega
  · split
    · unfold movesT
      split
      · decide
      · simp only [List.length_append, List.length_cons, List.length_nil]; omega
    · split
      · unfold sumsT; rw [List.length_append]; omega
      · unfold highT
        split
        · simp only [List.length_append, List.length_cons, List.length_nil]; omega
        · split
          · simp only [List.length_append, List.length_cons, List.length_nil]; omega
          · rcases (by omega : y / 2 = 0 ∨ y / 2 = 1 ∨ y / 2 = 2 ∨ y / 2 = 3) with e | e | e | e <;> rw [e] <;> simp only [List.getD_cons_zero, List.getD_cons_succ, List.length_append, List.length_cons, List.length_nil] <;> omega
        · simp only [List.length_append, List.length_cons, List.length_nil]; omega
        · rcases (by omega : y = 0 ∨ y = 1 ∨ y = 2 ∨ y = 3 ∨ y = 4 ∨ y = 5 ∨ y = 6 ∨ y = 7) with rfl | rfl | rfl | rfl | rfl | rfl | rfl | rfl <;> simp only [List.getD_cons_zero, List.getD_cons_succ, List.length_append, List.length_cons, List.length_nil] <;> omega
        · simp only [List.length_append, List.length_cons, List.length_nil]; omega
        · split
          · simp only [List.length_append, List.length_cons, List.length_nil]; omega
          · split <;> simp only [List.length_append, List.length_cons, List.length_nil] <;> omega
        · simp only [List.length_append]; omega
        · simp only [List.length_append, List.length_cons, List.length_nil]; omega
theorem show_len {pl c d i : Int} (hc : 0 ≤ c ∧ c < 256) (hd : 0 ≤ d ∧ d < 256) (hi : 0 ≤ i ∧ i < 65536) (hp : pl = 0 ∨ pl = 3 ∨ pl = 4) : (showT pl c d i).length < 300 := by
  unfold showT
  rw [if_pos hp]
  exact quar_len (shortP (pl := pl) (c := c) (d := d) (imm := i)) (by omega) (by omega)
theorem own_all {d i : Int} (hd : 0 ≤ d ∧ d < 256) (hi : 0 ≤ i ∧ i < 65536) : ∀ (m k c : Nat), c ≤ 256 → 256 - c = m → m < k →
    charabanclaw09_TextOwn_9.l2 1000 d i k (seen d i c) (c : Int) = some (Lp.go (seen d i 256))
  | m, 0, c, _, _, h => by omega
  | m, k + 1, c, h1, h2, hk => by
    rw [charabanclaw09_TextOwn_9.l2.eq_2]
    by_cases hc : c < 256
    · have hcc : 0 ≤ (c : Int) ∧ (c : Int) < 256 := by omega
      have ec : IntKind.wrap .u8 (c : Int) = (c : Int) := by rw [lo_imm]; omega
      have ih := own_all hd hi (m - 1) k (c + 1) (by omega) (by omega) (by omega)
      have t0 : showT 0 (c : Int) d i = txt d i c := show0 hc hi.1 hi.2
      have hl3 := show_len (pl := 3) hcc hd hi (by omega)
      have t3 : showT 3 (c : Int) d i = (mkI c).flatMap (sig i d 120) := show3 (.inl rfl) rfl hc hi.1 hi.2
      have t4 : showT 4 (c : Int) d i = (mkI c).flatMap (sig i d 121) := show3 (.inr rfl) rfl hc hi.1 hi.2
      have hxy := fm_xy i d (mkI c)
      rw [t3] at hl3
      rw [decide_eq_true (by omega), cond_t, ec, bare_eq, Option.bind_some, goShow hcc hd hi, goShow hcc hd hi, goShow hcc hd hi, Option.bind_some, t0, t3, t4]
      have hne : txt d i c ≠ [] := by
        have := all_some
        rw [List.all_eq_true] at this
        have := this c (List.mem_range.2 hc)
        unfold txt
        cases hm : mk0 c with
        | nil => rw [hm] at this; cases this
        | cons u l =>
          rw [hm] at this
          rw [List.flatMap_cons, sig_lit i d 120 u (by simpa using this)]
          simp
      rw [show (⟨#[]⟩ : ByteArray) = ba [] from rfl, ne_ba hne, cond_f, wrap_i64 (by omega) (by omega), show ((c : Int) + 1) = ((c + 1 : Nat) : Int) by omega]
      have rest : ∀ t : List ByteArray, t = seen d i (c + 1) → ((some (ba ((mkI c).flatMap (sig i d 120)))).bind fun t78 => (some (ba ((mkI c).flatMap (sig i d 121)))).bind fun t86 => cond ((t78.size : Int) != (t86.size : Int)) (some (Lp.ret ())) ((charabanclaw09_TextOwn_9.l1 1000 d i t (c : Int) t78 t86 1000 0).bind (fun x120 => Lp.elim x120 (fun _ => some (Lp.ret ())) (fun _ => charabanclaw09_TextOwn_9.l2 1000 d i k t ((c + 1 : Nat) : Int))))) = some (Lp.go (seen d i 256)) := by
        intro t ht
        subst ht
        rw [Option.bind_some, Option.bind_some, ba_size, ba_size, hxy.len, bne_self_eq_false, cond_f]
        have := xy_all d i hxy (seen d i (c + 1)) (c : Int) _ 1000 0 (by omega) rfl (by omega) (by omega)
        rw [show ((0 : Nat) : Int) = 0 from rfl] at this
        rw [this]
        exact ih
      simp only [Let]
      by_cases hb : bareN c = true
      · rw [hb, cond_t]
        have hnew : ∀ k ∈ bares c, txt d i k ≠ txt d i c := by
          intro k hk
          have hk1 : k < c ∧ bareN k = true := by
            unfold bares at hk
            rw [List.mem_filter] at hk
            exact ⟨List.mem_range.1 hk.1, hk.2⟩
          have a := all_differ
          rw [List.all_eq_true] at a
          have a := a c (List.mem_range.2 hc)
          rw [hb, Bool.not_true, Bool.false_or, List.all_eq_true] at a
          have a := a k (List.mem_range.2 hk1.1)
          rw [hk1.2, Bool.not_true, Bool.false_or] at a
          exact differ_ne a
        have hlen := bares_le c
        have := seen_new d i hnew (c : Int) (c : Int) _ 1000 0 (by omega) rfl (by omega) (by omega)
        rw [show ((0 : Nat) : Int) = 0 from rfl] at this
        rw [show seen d i c = (bares c).map (fun k => ba (txt d i k)) from rfl, this, Option.bind_some]
        show cond (mayBe _ _) _ _ = _
        rw [mayBe_of (by simp only [List.length_map, List.length_cons, List.length_nil]; omega) (by simp only [List.length_map, List.length_cons, List.length_nil]; omega), cond_t]
        refine rest _ ?_
        unfold seen
        rw [bares_succ, if_pos hb, List.map_append]
        rfl
      · rw [show bareN c = false by simpa using hb, cond_f]
        refine rest _ ?_
        unfold seen
        rw [bares_succ, if_neg hb]
    · have : c = 256 := by omega
      subst this
      rw [decide_eq_false (by omega)]; rfl
theorem TextOwn (a0 : Int) (a1 : Int) (w0 : (Lit.int .u8 a0).wf = true) (w1 : (Lit.int .u16 a1).wf = true) : ∃ K, charabanclaw09_TextOwn_9.f K a0 a1 = some true := by
  refine ⟨1000, ?_⟩
  unfold charabanclaw09_TextOwn_9.f
  have := own_all (w8 w0) (w16 w1) 256 1000 0 (by omega) (by omega) (by omega)
  rw [show seen a0 a1 0 = ([] : List ByteArray) from rfl, show ((0 : Nat) : Int) = 0 from rfl] at this
  rw [up, Option.bind_some, this]
  show some (((seen a0 a1 256).length : Int) == 252) = some true
  rw [show (seen a0 a1 256).length = (bares 256).length from List.length_map .., bares_len]
  rfl
end Go.Proofs.YtilgjfckgkkfmaaDoor.Pure
