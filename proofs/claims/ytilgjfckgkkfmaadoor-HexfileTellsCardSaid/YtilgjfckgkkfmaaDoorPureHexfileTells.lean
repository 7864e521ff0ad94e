/- The plain law of HexfileTells. -/
import Derived.Test.YtilgjfckgkkfmaaDoorHxHexfileTells
import Derived.Test.YtilgjfckgkkfmaaDoorHxLibG
set_option linter.unusedVariables false
namespace Go.Proofs.YtilgjfckgkkfmaaDoor.Pure
open Go.RowKit Go.Eng Go.Proofs.YtilgjfckgkkfmaaDoor.Hx
theorem u8w {x : Int} (h : (Lit.int .u8 x).wf = true) : byt x := by
  have : 0 ≤ x ∧ x ≤ 255 := by simpa [Lit.wf, IntKind.min, IntKind.max, IntKind.bits, IntKind.signed] using h
  unfold byt; omega
theorem u16w {x : Int} (h : (Lit.int .u16 x).wf = true) : 0 ≤ x ∧ x < 65536 := by
  have : 0 ≤ x ∧ x ≤ 65535 := by simpa [Lit.wf, IntKind.min, IntKind.max, IntKind.bits, IntKind.signed] using h
  omega
theorem up : charabanclaw33_awake_10.f 1000 = some true := by kernel_rfl
theorem readL_len {l : List UInt8} (hd : dls (spl l) < 400) : (readL l).1.length < 900 := by
  have key : ∀ (r : List (List UInt8)) (i : Int) (m : List Cel) (e : Bool), m.length + dls r < 400 → (Lp.elim (rdL r i m e) (fun x => ([], x.1, x.2)) (fun x => if x.2 = true then (x.1, 0, 0) else (([] : List Cel), (332 : Int), ((spl l).length : Int)))).1.length < 900 := by
    intro r
    induction r with
    | nil =>
      intro i m e h
      rw [rdL]
      cases e
      · simp [Lp.elim]
      · simp [Lp.elim]; omega
    | cons x r ih =>
      intro i m e h
      rw [dls_cons] at h
      rw [rdL]
      split
      · exact ih _ _ _ (by omega)
      split
      · simp [Lp.elim]
      split
      · simp [Lp.elim]
      split
      · simp [Lp.elim]
      split
      · exact ih _ _ _ (by omega)
      · have := load_len m x
        exact ih _ _ _ (by omega)
  exact key _ _ _ _ (by simpa using hd)
theorem HexfileTells (a0 : List (Int × Int)) (a1 : ByteArray) (w0 : (a0.length * 4 ≤ 140737488351232 ∧ ∀ x ∈ a0, ((Lit.int .u16 x.1).wf = true ∧ (Lit.int .u8 x.2).wf = true))) (w1 : a1.size ≤ 140737488351232) : ∃ K, charabanclaw33_HexfileTells_4.f K a0 a1 = some true := by
  have ho : okB a0 := fun p hp => ⟨u16w (w0.2 p hp).1, u8w (w0.2 p hp).2⟩
  obtain ⟨l, rfl⟩ : ∃ l, a1 = ba l := ⟨_, (ba_of a1).symm⟩
  refine ⟨1000, ?_⟩
  unfold charabanclaw33_HexfileTells_4.f
  rw [up, Option.bind_some]
  simp only [Let, Bool.not_true, cond_f]
  by_cases h1 : (a0.length : Int) > 60
  · rw [decide_eq_true h1, cond_t, cond_t]
  · rw [decide_eq_false h1, cond_f, ba_size]
    by_cases h2 : (l.length : Int) > 700
    · rw [decide_eq_true h2, cond_t]
    · have hs := spl_sum l
      have hd := dls_le (spl l)
      have hn := spl_len l
      have hc : l.count 10 ≤ l.length := List.count_le_length
      have h8 : ∀ x ∈ spl l, x.length ≤ 800 := fun x hx => by
        have : x.length ≤ ((spl l).map List.length).sum := by
          have key : ∀ (r : List (List UInt8)), x ∈ r → x.length ≤ (r.map List.length).sum := by
            intro r
            induction r with
            | nil => intro h; cases h
            | cons y r ih =>
              intro h
              rw [List.map_cons, List.sum_cons]
              rcases List.mem_cons.1 h with rfl | h
              · omega
              · have := ih h; omega
          exact key _ hx
        omega
      rw [decide_eq_false h2, cond_f, goRead (by omega) (by omega) h8 (by omega), Option.bind_some, refRead (by omega) (by omega), Option.bind_some, goShow (by omega) ho, Option.bind_some, refShow (by omega) ho, Option.bind_some]
      simp only [beq_self_eq_true, cond_t, same (readL_len (l := l) (by omega)), Option.bind_some]
end Go.Proofs.YtilgjfckgkkfmaaDoor.Pure
