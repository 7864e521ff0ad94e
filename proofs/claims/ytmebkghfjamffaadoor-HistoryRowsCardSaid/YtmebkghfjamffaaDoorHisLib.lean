/- Accesses: what follows on a memory, both. -/
import Derived.Test.YtmebkghfjamffaaDoorHisBkLibB
import Derived.Test.YtmebkghfjamffaaDoorHisLaLib
set_option linter.unusedVariables false
set_option linter.unusedSimpArgs false
namespace Go.Proofs.YtmebkghfjamffaaDoor.His
open Go.RowKit Go.Eng
theorem awake29 : charabanclaw29_awake_9.f 1000 = some true := by kernel_rfl
abbrev Ev : Type := Int × Int × Int × Int × Int × Int
abbrev Me : Type := List Int × Int × Int × List Sp
def stepH (s : Me) (e : Ev) : Option Me := history_step_47.f 1000 s.1 s.2.1 s.2.2.1 s.2.2.2 e.1 e.2.1 e.2.2.1 e.2.2.2.1 e.2.2.2.2.1 e.2.2.2.2.2
def stepQ (s : Me) (e : Ev) : Option Me := charabancref29_behind_43.f 1000 s.1 s.2.1 s.2.2.1 s.2.2.2 e.1 e.2.1 e.2.2.1 e.2.2.2.1 e.2.2.2.2.1 e.2.2.2.2.2
def readS (s : Me) (a : Int) : Option Int := banks_Read_42.f 1000 s.1 s.2.1 s.2.2.1 s.2.2.2 a
theorem read_at {s : Me} (hl : s.2.2.2.length ≤ 900) {a : Int} (ha : 0 ≤ a ∧ a ≤ 65535) : ∃ v, banks_Read_42.f 1000 s.1 s.2.1 s.2.2.1 s.2.2.2 a = some v ∧ charabancref19_Read_46.f 1000 s.1 s.2.1 s.2.2.1 s.2.2.2 a = some v := by
  obtain ⟨at_, ram, hw, hr⟩ := where_some 1000 s.1 s.2.1 s.2.2.1 s.2.2.2 a
  rw [read_eq hw (by omega) (by omega), rread_eq ((where_same _ _ _ _ _ _).trans hw) (by omega) (by omega)]
  cases ram with
  | true => exact ⟨_, rfl, rfl⟩
  | false =>
    have := hr rfl
    rw [wrap_i64 (by omega) (by omega)] at this
    have h2 : inR a s.1.length = true := inR_iff.2 ⟨ha.1, this⟩
    rw [h2]
    exact ⟨_, rfl, rfl⟩
def okE (e : Ev) : Prop := 0 ≤ e.2.2.2.1 ∧ e.2.2.2.1 ≤ 65535
theorem step_at {s : Me} (hl : s.2.2.2.length ≤ 400) {e : Ev} (he : okE e) : ∃ s', stepH s e = some s' ∧ stepQ s e = some s' ∧ s'.2.2.2.length ≤ s.2.2.2.length + 1 := by
  obtain ⟨r, n, bk, l⟩ := s
  obtain ⟨at_, m, kd, a, b, v⟩ := e
  obtain ⟨h0, h1⟩ := he
  simp only at hl h0 h1
  unfold stepH stepQ history_step_47.f charabancref29_behind_43.f
  simp only
  by_cases hk : kd = 3
  · obtain ⟨q, ram, hw, _⟩ := where_some 1000 r n bk l a
    rw [cond_of (by simpa using hk), cond_of (by simpa using hk), write_eq hw (by omega) (by omega), rwrite_eq hw (by omega) (by omega)]
    refine ⟨_, rfl, rfl, ?_⟩
    cases ram
    · exact Nat.le_succ _
    · exact ptS_length _ _ _
  · have hlo : charabancref01_Lo_81.f 1000 a = some (IntKind.wrap .u8 a) := by
      unfold charabancref01_Lo_81.f
      rw [wrap_i64 (by omega) (by omega), Int.tmod_eq_emod_of_nonneg h0, IntKind.wrap_u8, IntKind.wrap_u8]
      congr 1
      omega
    obtain ⟨d, r', d1, d2, _⟩ := dev_at (p := IntKind.wrap .u8 a) (by rw [IntKind.wrap_u8]; omega)
    have e3 : (kd == 3) = false := by simpa using hk
    rw [e3, cond_f, cond_f, hlo, d1, Option.bind_some]
    simp only [Option.bind_some, Let, d2, select_eq, rselect_eq]
    by_cases h5 : kd = 5
    · have e5 : (kd == 5) = true := by simpa using h5
      simp only [e5, cond_t]
      cases d == 5
      · exact ⟨_, rfl, rfl, Nat.le_succ _⟩
      · exact ⟨_, rfl, rfl, Nat.le_succ _⟩
    · have e5 : (kd == 5) = false := by simpa using h5
      simp only [e5, cond_f]
      exact ⟨_, rfl, rfl, Nat.le_succ _⟩
def LH (r0 : Me) (l : List Ev) (k : Nat) (s : Me) (i : Int) : Option (Lp (Int × Me) Me) := history_Legal_13.l0 1000 r0.1 r0.2.1 r0.2.2.1 r0.2.2.2 l k s.1 s.2.1 s.2.2.1 s.2.2.2 i
def LQ (r0 : Me) (l : List Ev) (k : Nat) (s : Me) (i : Int) : Option (Lp Int Unit) := charabancref29_Legal_14.l0 1000 r0.1 r0.2.1 r0.2.2.1 r0.2.2.2 l k s.1 s.2.1 s.2.2.1 s.2.2.2 i
def follow (s : Me) (e : Ev) : Option Bool := history_follows_45.f 1000 s.1 s.2.1 s.2.2.1 s.2.2.2 e.1 e.2.1 e.2.2.1 e.2.2.2.1 e.2.2.2.2.1 e.2.2.2.2.2
theorem LH_step (r0 : Me) (l : List Ev) (k : Nat) (s : Me) (i : Int) : LH r0 l (k + 1) s i = cond (decide (i < (l.length : Int))) (cond (inR i l.length) (Let (fun (t114 : Bool) => cond t114 (some (Lp.ret (i, s))) ((stepH s (rdD l i)).bind fun y => LH r0 l k y (IntKind.wrap .i64 (i + 1)))) (fun j117 => cond (decide (i > 0)) (cond (inR (IntKind.wrap .i64 (i - 1)) l.length) (cond (decide (((rdD l i).1) ≤ ((rdD l (IntKind.wrap .i64 (i - 1))).1))) (j117 true) ((follow s (rdD l i)).bind fun t => j117 (!t))) none) ((follow s (rdD l i)).bind fun t => j117 (!t)))) none) (some (Lp.go s)) := rfl
theorem LQ_step (r0 : Me) (l : List Ev) (k : Nat) (s : Me) (i : Int) : LQ r0 l (k + 1) s i = cond (decide (i < (l.length : Int))) (cond (inR i l.length) (Let (fun (t32 : Bool) => Let (fun (t75 : Bool) => cond t75 (some (Lp.ret i)) ((stepQ s (rdD l i)).bind fun y => LQ r0 l k y (IntKind.wrap .i64 (i + 1)))) (fun j78 => cond (((rdD l i).2.2.2.2.1) != s.2.2.1) (j78 true) (cond (decide (i > 0)) (cond (inR (IntKind.wrap .i64 (i - 1)) l.length) (cond (decide (((rdD l i).1) ≤ ((rdD l (IntKind.wrap .i64 (i - 1))).1))) (j78 true) (cond t32 ((charabancref19_Read_46.f 1000 s.1 s.2.1 s.2.2.1 s.2.2.2 ((rdD l i).2.2.2.1)).bind fun t59 => j78 (((rdD l i).2.2.2.2.2) != t59)) (j78 false))) none)
    (cond t32 ((charabancref19_Read_46.f 1000 s.1 s.2.1 s.2.2.1 s.2.2.2 ((rdD l i).2.2.2.1)).bind fun t68 => j78 (((rdD l i).2.2.2.2.2) != t68)) (j78 false))))) (fun j35 => cond (((rdD l i).2.2.1) == 1) (j35 true) (j35 (((rdD l i).2.2.1) == 2)))) none) (some (Lp.go ())) := rfl
/-- Is the access read, and what is read? -/
theorem follow_at {s : Me} (hl : s.2.2.2.length ≤ 900) {e : Ev} (he : okE e) (v : Int) (hv : charabancref19_Read_46.f 1000 s.1 s.2.1 s.2.2.1 s.2.2.2 e.2.2.2.1 = some v) :
    follow s e = some ((e.2.2.2.2.1 == s.2.2.1) && (!(e.2.2.1 == 1 || e.2.2.1 == 2) || e.2.2.2.2.2 == v)) := by
  obtain ⟨w, h1, h2⟩ := read_at hl he
  have : w = v := by rw [h2] at hv; exact Option.some.inj hv
  subst this
  unfold follow history_follows_45.f
  simp only [Let]
  rw [h1]
  cases h3 : e.2.2.1 == 1 <;> cases h4 : e.2.2.1 == 2 <;> cases h5 : e.2.2.2.2.1 == s.2.2.1 <;> simp
theorem legal_l (r0 : Me) (l : List Ev) (hl : l.length ≤ 100) (hE : ∀ e ∈ l, okE e) : ∀ (f : Nat) (s : Me) (i : Nat), i ≤ l.length → l.length - i < f → s.2.2.2.length ≤ 100 + i →
    (∃ (j : Nat) (s' : Me), LH r0 l f s (i : Int) = some (Lp.ret ((j : Int), s')) ∧ LQ r0 l f s (i : Int) = some (Lp.ret (j : Int))) ∨ (∃ s', LH r0 l f s (i : Int) = some (Lp.go s') ∧ LQ r0 l f s (i : Int) = some (Lp.go ()))
  | 0, s, i, h1, h2, h3 => by omega
  | f + 1, s, i, h1, h2, h3 => by
    rw [LH_step, LQ_step]
    by_cases hi : i < l.length
    · have he := hE l[i] (List.getElem_mem hi)
      obtain ⟨v, hv1, hv⟩ := read_at (s := s) (by omega) he
      obtain ⟨s', hs1, hs2, hs3⟩ := step_at (s := s) (by omega) he
      have hf := follow_at (s := s) (by omega) he v hv
      have ih := legal_l r0 l hl hE f s' (i + 1) (by omega) (by omega) (by omega)
      rw [decide_eq_true (show (i : Int) < (l.length : Int) by omega), cond_t, cond_t, inR_nat hi, cond_t, cond_t, rdD_nat l hi, hf, hs1, hs2, hv, wrap_nat (by omega)]
      simp only [Option.bind_some, Let]
      have hp : inR (IntKind.wrap .i64 ((i : Int) - 1)) l.length = true ∨ decide ((i : Int) > 0) = false := by
        by_cases h0 : i = 0
        · right; subst h0; rfl
        · left; rw [wrap_i64 (by omega) (by omega)]; exact inR_iff.2 ⟨by omega, by omega⟩
      generalize hc : decide ((l[i]).1 ≤ (rdD l (IntKind.wrap .i64 ((i : Int) - 1))).1) = c
      rcases hp with hp | hp
      · rw [hp]
        cases decide ((i : Int) > 0) <;> cases h4 : ((l[i]).2.2.2.2.1 == s.2.2.1) <;> cases c <;> cases h6 : ((l[i]).2.2.1 == 1) <;> cases h7 : ((l[i]).2.2.1 == 2) <;> cases h8 : ((l[i]).2.2.2.2.2 == v) <;> simp only [bne, h4, h8, Bool.not_true, Bool.not_false, Bool.and_true, Bool.and_false, Bool.true_and, Bool.false_and, Bool.or_true, Bool.or_false, Bool.true_or, Bool.false_or, cond_t, cond_f] <;> first | exact ih | exact .inl ⟨i, s, rfl, rfl⟩
      · rw [hp]
        cases h4 : ((l[i]).2.2.2.2.1 == s.2.2.1) <;> cases h6 : ((l[i]).2.2.1 == 1) <;> cases h7 : ((l[i]).2.2.1 == 2) <;> cases h8 : ((l[i]).2.2.2.2.2 == v) <;> simp only [bne, h4, h8, Bool.not_true, Bool.not_false, Bool.and_true, Bool.and_false, Bool.true_and, Bool.false_and, Bool.or_true, Bool.or_false, Bool.true_or, Bool.false_or, cond_t, cond_f] <;> first | exact ih | exact .inl ⟨i, s, rfl, rfl⟩
    · rw [decide_eq_false (show ¬ (i : Int) < (l.length : Int) by omega), cond_f, cond_f]
      exact .inr ⟨s, rfl, rfl⟩
def BH (r0 : Me) (l : List Ev) (k : Nat) (s : Me) (i : Int) : Option Me := history_Behind_16.l0 1000 r0.1 r0.2.1 r0.2.2.1 r0.2.2.2 l k s.1 s.2.1 s.2.2.1 s.2.2.2 i
def BQ (r0 : Me) (l : List Ev) (k : Nat) (s : Me) (i : Int) : Option Me := charabancref29_Behind_11.l0 1000 r0.1 r0.2.1 r0.2.2.1 r0.2.2.2 l k s.1 s.2.1 s.2.2.1 s.2.2.2 i
theorem BH_step (r0 : Me) (l : List Ev) (k : Nat) (s : Me) (i : Int) : BH r0 l (k + 1) s i = cond (decide (i < (l.length : Int))) (cond (inR i l.length) ((stepH s (rdD l i)).bind fun y => BH r0 l k y (IntKind.wrap .i64 (i + 1))) none) (some s) := rfl
theorem BQ_step (r0 : Me) (l : List Ev) (k : Nat) (s : Me) (i : Int) : BQ r0 l (k + 1) s i = cond (decide (i < (l.length : Int))) (cond (inR i l.length) ((stepQ s (rdD l i)).bind fun y => BQ r0 l k y (IntKind.wrap .i64 (i + 1))) none) (some s) := rfl
theorem behind_l (r0 : Me) (l : List Ev) (hl : l.length ≤ 100) (hE : ∀ e ∈ l, okE e) : ∀ (f : Nat) (s : Me) (i : Nat), i ≤ l.length → l.length - i < f → s.2.2.2.length ≤ 100 + i →
    ∃ s', BH r0 l f s (i : Int) = some s' ∧ BQ r0 l f s (i : Int) = some s' ∧ s'.2.2.2.length ≤ 200
  | 0, s, i, h1, h2, h3 => by omega
  | f + 1, s, i, h1, h2, h3 => by
    rw [BH_step, BQ_step]
    by_cases hi : i < l.length
    · have he := hE l[i] (List.getElem_mem hi)
      obtain ⟨s', hs1, hs2, hs3⟩ := step_at (s := s) (by omega) he
      rw [decide_eq_true (show (i : Int) < (l.length : Int) by omega), cond_t, cond_t, inR_nat hi, cond_t, cond_t, rdD_nat l hi, hs1, hs2, wrap_nat (by omega), Option.bind_some, Option.bind_some]
      exact behind_l r0 l hl hE f s' (i + 1) (by omega) (by omega) (by omega)
    · rw [decide_eq_false (show ¬ (i : Int) < (l.length : Int) by omega), cond_f, cond_f]
      exact ⟨s, rfl, rfl, by omega⟩
theorem store_l (r : List Int) (n b : Int) (l : List Sp) (hl : l.length ≤ 900) : ∀ (f i : Nat), i ≤ l.length → l.length - i < f → charabanclaw29_store_12.l0 1000 r n b l f (l.take i) (i : Int) = some l
  | 0, i, h1, h2 => by omega
  | f + 1, i, h1, h2 => by
    rw [charabanclaw29_store_12.l0]
    by_cases hi : i < l.length
    · rw [decide_eq_true (by omega), cond_t, cond_of (inR_nat hi), rdD_nat l hi, cond_of (mayBe_of (by simp; omega) (by simp; omega)), wrap_nat (by omega)]
      have : l.take i ++ [((l[i]).1, (l[i]).2)] = l.take (i + 1) := by rw [List.take_succ_eq_append_getElem hi]
      rw [this]
      exact store_l r n b l hl f (i + 1) (by omega) (by omega)
    · rw [decide_eq_false (by omega), cond_f, List.take_of_length_le (by omega)]
theorem store_at (r : List Int) (n b : Int) (l : List Sp) (hl : l.length ≤ 900) : charabanclaw29_store_12.f 1000 r n b l = some (r, n, b, l) := by
  unfold charabanclaw29_store_12.f
  have := store_l r n b l hl 1000 0 (by omega) (by omega)
  erw [this]
  rfl
end Go.Proofs.YtmebkghfjamffaaDoor.His
