/- The plain law of HexfileBack. -/
import Derived.Test.YtilgjfckgkkfmaaDoorHxHexfileBack
import Derived.Test.YtilgjfckgkkfmaaDoorHxLibG
set_option linter.unusedVariables false
namespace Go.Proofs.YtilgjfckgkkfmaaDoor.Pure
open Go.RowKit Go.Eng Go.Proofs.YtilgjfckgkkfmaaDoor.Hx
theorem u8w {x : Int} (h : (Lit.int .u8 x).wf = true) : byt x := by
  have : 0 ≤ x ∧ x ≤ 255 := by simpa [Lit.wf, IntKind.min, IntKind.max, IntKind.bits, IntKind.signed] using h
  unfold byt; omega
theorem u16w {x : Int} (h : (Lit.int .u16 x).wf = true) : 0 ≤ x ∧ x < 65536 := by
  have : 0 ≤ x ∧ x ≤ 65535 := by simpa [Lit.wf, IntKind.min, IntKind.max, IntKind.bits, IntKind.signed] using h
  omega
theorem up : charabanclaw33_awake_10.f 1000 = some true := by kernel_rfl
theorem same33 (k a : Int) (d : List Int) : charabancref33_Same_16.f 1000 k a d k a d = some true := by
  unfold charabancref33_Same_16.f
  simp
theorem from_snoc : ∀ (d : List Int) (a x : Int), 0 ≤ a → a + d.length < 65536 → cellsFrom a (d ++ [x]) = cellsFrom a d ++ [(a + d.length, x)]
  | [], a, x, _, _ => by simp [cellsFrom]
  | y :: d, a, x, h0, h => by
    simp only [List.length_cons] at h
    rw [List.cons_append, cellsFrom, cellsFrom, IntKind.wrap_u16, Int.emod_eq_of_lt (by omega) (by omega), from_snoc d (a + 1) x (by omega) (by omega), List.cons_append, List.length_cons]
    congr 4
    omega
theorem grp_cells : ∀ (m : List Cel) (a : Int) (d : List Int), okB m → (d ≠ [] → 0 ≤ a) → (grp a d m).flatMap (fun g => cellsFrom g.1 g.2) = cellsFrom a d ++ m
  | [], a, d, _, _ => by
    rw [grp]
    split
    · next h => subst h; rfl
    · simp
  | c :: m, a, d, ho, ha => by
    have hc := (ho c List.mem_cons_self).1
    have hom : okB m := fun p hp => ho p (List.mem_cons_of_mem _ hp)
    rw [grp]
    split
    · rw [List.flatMap_cons, grp_cells m c.1 [c.2] hom (fun _ => hc.1)]
      rfl
    · next hn =>
      by_cases h0 : d = []
      · subst h0
        rw [if_pos rfl, grp_cells m c.1 _ hom (fun _ => hc.1)]
        rfl
      · have he : c.1 = a + d.length := by
          by_cases h : c.1 = a + d.length
          · exact h
          · exact absurd ⟨h0, .inr h⟩ hn
        rw [if_neg h0, grp_cells m a _ hom (fun _ => ha h0), from_snoc d a c.2 (ha h0) (by omega), ← he]
        simp
/-- What a group is. -/
def okG (g : Int × List Int) : Prop := (0 ≤ g.1 ∧ g.1 < 65536) ∧ g.2.length ≤ 16 ∧ ∀ x ∈ g.2, byt x
theorem grp_ok : ∀ (m : List Cel) (a : Int) (d : List Int), okB m → (d ≠ [] → okG (a, d)) → ∀ g ∈ grp a d m, okG g
  | [], a, d, _, hd, g, hg => by
    rw [grp] at hg
    split at hg
    · cases hg
    · next h => obtain rfl := List.mem_singleton.1 hg; exact hd h
  | c :: m, a, d, ho, hd, g, hg => by
    have hc := ho c List.mem_cons_self
    have hom : okB m := fun p hp => ho p (List.mem_cons_of_mem _ hp)
    have h1 : okG (c.1, [c.2]) := ⟨hc.1, by simp, fun x hx => by obtain rfl := List.mem_singleton.1 hx; exact hc.2⟩
    rw [grp] at hg
    split at hg
    · next h =>
      rcases List.mem_cons.1 hg with rfl | hg
      · exact hd h.1
      · exact grp_ok m _ _ hom (fun _ => h1) g hg
    · next hn =>
      refine grp_ok m _ _ hom (fun _ => ?_) g hg
      by_cases h0 : d = []
      · subst h0; exact h1
      · obtain ⟨g1, g2, g3⟩ := hd h0
        rw [if_neg h0]
        refine ⟨g1, ?_, fun x hx => (List.mem_append.1 hx).elim (g3 x) (fun hx => by obtain rfl := List.mem_singleton.1 hx; exact hc.2)⟩
        have : ¬ d.length = 16 := fun h16 => hn ⟨h0, .inl h16⟩
        have : d.length ≤ 16 := g2
        simp only [List.length_append, List.length_singleton]
        omega
theorem grp_num : ∀ (m : List Cel) (a : Int) (d : List Int), ((grp a d m).map fun g => g.2.length).sum = d.length + m.length ∧ (grp a d m).length ≤ m.length + 1
  | [], a, d => by
    rw [grp]
    split
    · next h => subst h; simp
    · simp
  | c :: m, a, d => by
    rw [grp]
    split
    · have := grp_num m c.1 [c.2]
      simp only [List.map_cons, List.sum_cons, List.length_cons, List.length_nil] at this ⊢
      omega
    · have := grp_num m (if d = [] then c.1 else a) (d ++ [c.2])
      simp only [List.length_append, List.length_cons, List.length_nil] at this ⊢
      omega
/-- No line's end in a line. -/
theorem hxd_10 {v : Int} (h : 0 ≤ v ∧ v < 16) : toB (hxd v) ≠ 10 := by
  have key : ∀ v : Fin 16, toB (hxd (v.val : Int)) ≠ 10 := by decide +kernel
  have := key ⟨v.toNat, by omega⟩
  simpa [Int.toNat_of_nonneg h.1] using this
theorem line_10 {k a : Int} {d : List Int} (hk : byt k) (ha : 0 ≤ a ∧ a < 65536) (hd : ∀ x ∈ d, byt x) : ∀ c ∈ (lineI k a d).map toB, c ≠ 10 := by
  intro c hc
  obtain ⟨y, hy, rfl⟩ := List.mem_map.1 hc
  rcases List.mem_cons.1 hy with rfl | hy
  · decide
  · obtain ⟨x, hx, hy⟩ := List.mem_flatMap.1 hy
    have hxb := all_byt hk ha hd x hx
    unfold byt at hxb
    simp only [twoI, List.mem_cons, List.not_mem_nil, or_false] at hy
    rcases hy with rfl | rfl
    · exact hxd_10 (by omega)
    · exact hxd_10 (by omega)
theorem spl_line : ∀ (x r : List UInt8), (∀ c ∈ x, c ≠ 10) → spl (x ++ 10 :: r) = x :: spl r
  | [], r, _ => by simp [spl]
  | c :: x, r, h => by rw [List.cons_append, spl, if_neg (h c List.mem_cons_self), spl_line x r (fun y hy => h y (List.mem_cons_of_mem _ hy))]
def lnG (g : Int × List Int) : List UInt8 := (lineI 0 g.1 g.2).map toB
theorem spl_show : ∀ (gs : List (Int × List Int)), (∀ g ∈ gs, okG g) → spl (recs gs ++ recB 1 0 []) = gs.map lnG ++ [(lineI 1 0 []).map toB, []]
  | [], _ => by
    rw [show recs [] ++ recB 1 0 [] = (lineI 1 0 []).map toB ++ 10 :: [] by simp [recs, recB], spl_line _ _ (line_10 b1 (by omega) (by simp))]
    rfl
  | g :: gs, h => by
    have hg := h g List.mem_cons_self
    rw [show recs (g :: gs) ++ recB 1 0 [] = lnG g ++ 10 :: (recs gs ++ recB 1 0 []) by simp [recs, recB, lnG], spl_line (lnG g) _ (line_10 b0 hg.1 hg.2.2), spl_show gs (fun x hx => h x (List.mem_cons_of_mem _ hx))]
    rfl
theorem pI_line {k a : Int} {d : List Int} (hk : byt k) (ha : 0 ≤ a ∧ a < 65536) (hd : ∀ x ∈ d, byt x) (hl : d.length ≤ 255) : pI ((lineI k a d).map toB) = (k, a, d, 0) := by
  have := bytes_toB (lineI_byt hk ha hd)
  rw [bytesI_ba] at this
  unfold pI
  rw [this, parse_line hk ha hd hl]
theorem ln_ne (k a : Int) (d : List Int) : (lineI k a d).map toB ≠ [] := by simp [lineI]
theorem rd_show : ∀ (gs : List (Int × List Int)) (i : Int) (m : List Cel), (∀ g ∈ gs, okG g) → rdL (gs.map lnG ++ [(lineI 1 0 []).map toB, []]) i m false = .go (gs.foldl (fun m g => memC (m ++ cellsFrom g.1 g.2)) m, true)
  | [], i, m, _ => by
    rw [List.map_nil, List.nil_append, rdL, if_neg (ln_ne _ _ _), pI_line b1 (by omega) (by simp) (by simp), if_neg (by simp), if_neg (by simp), if_neg (by simp), if_pos rfl, rdL, if_pos rfl, rdL]
    rfl
  | g :: gs, i, m, h => by
    have hg := h g List.mem_cons_self
    have hx : pI (lnG g) = (0, g.1, g.2, 0) := pI_line b0 hg.1 hg.2.2 (by have := hg.2.1; omega)
    rw [List.map_cons, List.cons_append, rdL, if_neg (show lnG g ≠ [] from ln_ne _ _ _), hx, if_neg (by simp), if_neg (by simp), if_neg (by simp), if_neg (by simp), rd_show gs _ _ (fun x hx => h x (List.mem_cons_of_mem _ hx))]
    rfl
theorem fold_mem : ∀ (gs : List (Int × List Int)) (m : List Cel), gs.foldl (fun m g => memC (m ++ cellsFrom g.1 g.2)) (memC m) = memC (m ++ gs.flatMap fun g => cellsFrom g.1 g.2)
  | [], m => by simp
  | g :: gs, m => by rw [List.foldl_cons, memC_app, fold_mem gs, List.flatMap_cons, List.append_assoc]
theorem dls_show (gs : List (Int × List Int)) (h : ∀ g ∈ gs, okG g) : dls (gs.map lnG ++ [(lineI 1 0 []).map toB, []]) = (gs.map fun g => g.2.length).sum := by
  induction gs with
  | nil =>
    rw [List.map_nil, List.nil_append, dls_cons, dls_cons, dl, pI_line b1 (by omega) (by simp) (by simp)]
    rfl
  | cons g gs ih =>
    have hg := h g List.mem_cons_self
    rw [List.map_cons, List.cons_append, dls_cons, ih (fun x hx => h x (List.mem_cons_of_mem _ hx)), dl, lnG, pI_line b0 hg.1 hg.2.2 (by have := hg.2.1; omega), List.map_cons, List.sum_cons]
theorem recs_len : ∀ (gs : List (Int × List Int)), (∀ g ∈ gs, okG g) → (recs gs).length ≤ 44 * gs.length
  | [], _ => by simp [recs]
  | g :: gs, h => by
    have h1 := recs_len gs (fun x hx => h x (List.mem_cons_of_mem _ hx))
    have hg := (h g List.mem_cons_self).2.1
    rw [show recs (g :: gs) = recB 0 g.1 g.2 ++ recs gs by simp [recs], List.length_append, recB_len, List.length_cons]
    omega
theorem readShow {l : List Cel} (hl : l.length ≤ 60) (ho : okB l) : hexfile_Read_19.f 1000 (ba (showL (memC l))) = some (memC l, 0, 0) := by
  have hm := memC_len l
  have hom := ho.mem
  have hmm := memC_memC l
  generalize memC l = m at hm hom hmm ⊢
  have hG := grp_ok m 0 [] hom (fun h => absurd rfl h)
  have hN := grp_num m 0 []
  have hC := grp_cells m 0 [] hom (fun h => absurd rfl h)
  have hR := recs_len _ hG
  have hS := spl_show _ hG
  have hD := dls_show _ hG
  simp only [List.length_nil] at hN
  unfold showL
  have hlen : (recs (grp 0 [] m) ++ recB 1 0 []).length ≤ 3000 := by rw [List.length_append, recB_len]; simp only [List.length_nil]; omega
  rw [goRead (by omega) (by rw [hS]; simp; omega) (fun x hx => ?_) (by rw [hS, hD]; omega)]
  · unfold readL
    rw [hS, rd_show _ _ _ hG]
    have e0 : ([] : List Cel) = memC [] := rfl
    rw [e0, fold_mem, List.nil_append, hC]
    simp only [Lp.elim, if_true]
    rw [show cellsFrom 0 [] = [] from rfl, List.nil_append, hmm]
  · rw [hS] at hx
    rcases List.mem_append.1 hx with hx | hx
    · obtain ⟨g, hg, rfl⟩ := List.mem_map.1 hx
      have := (hG g hg).2.1
      rw [lnG, List.length_map, lineI_len]
      omega
    · simp only [List.mem_cons, List.not_mem_nil, or_false] at hx
      rcases hx with rfl | rfl
      · rw [List.length_map, lineI_len]; simp
      · simp
theorem HexfileBack (a0 : List (Int × Int)) (a1 : Int × Int × List Int) (w0 : (a0.length * 4 ≤ 140737488351232 ∧ ∀ x ∈ a0, ((Lit.int .u16 x.1).wf = true ∧ (Lit.int .u8 x.2).wf = true))) (w1 : ((Lit.int .u8 a1.1).wf = true ∧ ((Lit.int .u16 a1.2.1).wf = true ∧ (a1.2.2.length * 1 ≤ 140737488351232 ∧ ∀ x ∈ a1.2.2, (Lit.int .u8 x).wf = true)))) : ∃ K, charabanclaw33_HexfileBack_5.f K a0 a1.1 a1.2.1 a1.2.2 = some true := by
  have ho : okB a0 := fun p hp => ⟨u16w (w0.2 p hp).1, u8w (w0.2 p hp).2⟩
  obtain ⟨k, a, d⟩ := a1
  obtain ⟨hk, ha, _, hd⟩ := w1
  have hk : byt k := u8w hk
  have ha : 0 ≤ a ∧ a < 65536 := u16w ha
  have hd : ∀ x ∈ d, byt x := fun x hx => u8w (hd x hx)
  refine ⟨1000, ?_⟩
  show charabanclaw33_HexfileBack_5.f 1000 a0 k a d = some true
  unfold charabanclaw33_HexfileBack_5.f
  rw [up, Option.bind_some]
  simp only [Let, Bool.not_true, cond_f]
  by_cases h1 : (a0.length : Int) > 60
  · rw [decide_eq_true h1, cond_t, cond_t]
  · rw [decide_eq_false h1, cond_f]
    by_cases h2 : (d.length : Int) > 255
    · rw [decide_eq_true h2, cond_t]
    · have hm := memC_len a0
      have hsz : (ba ((lineI k a d).map toB)).size = 11 + 2 * d.length := by rw [ba_size, List.length_map, lineI_len]
      rw [decide_eq_false h2, cond_f, goShow (by omega) ho, Option.bind_some, readShow (by omega) ho, Option.bind_some, line_ok (by omega) hk ha hd, Option.bind_some]
      dsimp only
      rw [goParse (by rw [hsz]; omega), bytes_toB (lineI_byt hk ha hd), parse_line hk ha hd (by omega), Option.bind_some, refMake (by omega) ho.c, Option.bind_some, same (by omega), Option.bind_some, hsz,
        wrap_i64 (x := 2 * (d.length : Int)) (by omega) (by omega), wrap_i64 (x := 11 + 2 * (d.length : Int)) (by omega) (by omega)]
      simp only [charabanclaw33_plain_13.f, Option.bind_some, same33, beq_self_eq_true, cond_t]
      rw [show ((11 + 2 * d.length : Nat) : Int) = 11 + 2 * (d.length : Int) by omega, beq_self_eq_true]
end Go.Proofs.YtilgjfckgkkfmaaDoor.Pure
