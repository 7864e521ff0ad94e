/- What is shown is read. -/
import Derived.Test.YtbcepghanbkncaaDoorImLibF
set_option linter.unusedVariables false
set_option linter.unusedSimpArgs false
namespace Go.Proofs.YtbcepghanbkncaaDoor.Im
open Go.RowKit Go.Eng
theorem numI_app : ∀ (a b : List Int) (n : Int), numI n (a ++ b) = (numI n a).bind fun v => numI v b
  | [], b, n => rfl
  | c :: a, b, n => by
    rw [List.cons_append, numI, numI]
    split
    · rfl
    · exact numI_app a b _
theorem numI_hx : ∀ (m u : Nat), u < 16 ^ m → numI 0 (iL (hxL m u)) = some (u : Int)
  | 0, u, h => by
    have : u = 0 := by simpa using h
    subst this; rfl
  | m + 1, u, h => by
    have ih := numI_hx m (u / 16) (Nat.div_lt_of_lt_mul (by rw [Nat.pow_succ, Nat.mul_comm] at h; exact h))
    unfold iL at *
    rw [hxL, List.map_append, numI_app, ih, Option.bind_some]
    show numI ((u / 16 : Nat) : Int) [((dg (u % 16)).toNat : Int)] = _
    rw [numI, vI_dg (show u % 16 < 16 by omega), if_neg (by omega), numI]
    congr 1; omega
theorem numO_hx {m u : Nat} (h : u < 16 ^ m) : numO (iL (hxL m u)) m = some (u : Int) := by
  unfold numO
  rw [if_pos (by rw [iL_len, hxL_len]), numI_hx m u h]
theorem fewO_hx {u : Nat} (h : u ≤ 8) : fewO (iL (hxL 1 u)) = some (u : Int) := by
  have : ∀ u : Fin 9, fewO (iL (hxL 1 u.val)) = some (u.val : Int) := by decide
  exact this ⟨u, by omega⟩
theorem dg_not {d : Nat} (h : d < 16) : dg d ≠ 10 ∧ dg d ≠ 32 := by
  have : ∀ d : Fin 16, dg d.val ≠ 10 ∧ dg d.val ≠ 32 := by decide
  exact this ⟨d, h⟩
theorem hxL_not : ∀ (m u : Nat), ∀ c ∈ hxL m u, c ≠ 10 ∧ c ≠ 32
  | 0, u, c, h => by cases h
  | m + 1, u, c, h => by
    rw [hxL] at h
    rcases List.mem_append.1 h with h | h
    · exact hxL_not m _ c h
    · obtain rfl := List.mem_singleton.1 h
      exact dg_not (by omega)
theorem hexes_not (b : List Int) : ∀ c ∈ hexes b, c ≠ 10 ∧ c ≠ 32 := by
  intro c hc
  obtain ⟨x, _, hx⟩ := List.mem_flatMap.1 hc
  exact hxL_not 2 _ c hx
theorem spl_line : ∀ (x r : List UInt8), (∀ c ∈ x, c ≠ 10) → spl (x ++ 10 :: r) = x :: spl r
  | [], r, _ => by simp [spl]
  | c :: x, r, h => by rw [List.cons_append, spl, if_neg (h c List.mem_cons_self), spl_line x r (fun y hy => h y (List.mem_cons_of_mem _ hy))]
theorem spl_lns : ∀ L : List (List UInt8), (∀ x ∈ L, ∀ c ∈ x, c ≠ 10) → spl (lnsT L) = L ++ [[]]
  | [], _ => rfl
  | x :: L, h => by rw [lnsT_cons, spl_line x _ (h x List.mem_cons_self), spl_lns L (fun y hy => h y (List.mem_cons_of_mem _ hy))]; rfl
theorem rdT_app : ∀ (A B : List (List UInt8)) (i : Int) (c c' : Cfg), rdT A i c = .go c' → ∃ j, rdT (A ++ B) i c = rdT B j c'
  | [], B, i, c, c', h => by cases h; exact ⟨i, rfl⟩
  | x :: A, B, i, c, c', h => by
    rw [rdT] at h
    rw [List.cons_append, rdT]
    cases ht : tell c x with
    | none => rw [ht] at h; cases h
    | some d => rw [ht] at h; exact rdT_app A B _ d c' h
theorem tell_word {c : Cfg} {a : UInt8} {w r : List UInt8} (h59 : a ≠ 59) (hw : (32 : UInt8) ∉ a :: w) : tell c (a :: w ++ 32 :: r) = tellW c (a :: w) r := by
  unfold tell
  rw [if_neg (by simp [h59]), cut_of _ _ hw]
theorem tell_rom {c : Cfg} {x : List Int} (hx : ∀ y ∈ x, byt y) : tell c (romR x) = some (c.1 ++ x, c.2.1, c.2.2.1, c.2.2.2.1, c.2.2.2.2) := by
  unfold romR
  rw [tell_word (by decide) (by decide), tellW, if_neg (by decide), if_neg (by decide), if_neg (by decide), if_pos rfl, prs_hexes x hx]
  rfl
theorem tell_ram {c : Cfg} {x : Sp} (hx : (0 ≤ x.1 ∧ x.1 < 196608) ∧ byt x.2) : tell c (ramR x) = some (c.1, c.2.1, c.2.2.1, ptS c.2.2.2.1 x.1 x.2, c.2.2.2.2) := by
  unfold ramR
  have h2 : prsB (iL (two x.2)) = some [x.2] := by
    have := prs_hexes [x.2] (fun y hy => by obtain rfl := List.mem_singleton.1 hy; exact hx.2)
    simpa [hexes] using this
  rw [tell_word (by decide) (by decide), tellW, if_neg (by decide), if_neg (by decide), if_neg (by decide), if_neg (by decide), if_pos rfl, tellR, cut_of _ _ (fun h => (hxL_not 5 _ _ h).2 rfl)]
  dsimp only
  rw [numO_hx (m := 5) (show _ < 1048576 by omega)]
  dsimp only
  rw [h2]
  dsimp only
  rw [ldS, ldS, Int.toNat_of_nonneg hx.1.1, wrap_i64 (by omega) (by omega)]
  simp
theorem rd_rom : ∀ (f : Nat) (r r0 : List Int) (n b pc : Int) (l : List Sp) (i : Int), r.length ≤ 16 * f → (∀ y ∈ r, byt y) → rdT ((rows16 f r).map romR) i (r0, n, b, l, pc) = .go (r0 ++ r, n, b, l, pc)
  | 0, r, r0, n, b, pc, l, i, h, _ => by
    obtain rfl : r = [] := List.eq_nil_of_length_eq_zero (by omega)
    simp [rows16, rdT]
  | f + 1, r, r0, n, b, pc, l, i, h, hb => by
    rw [rows16]
    split
    · next h0 => subst h0; simp [rdT]
    · rw [List.map_cons, rdT, tell_rom (fun y hy => hb y (List.mem_of_mem_take hy))]
      dsimp only
      rw [rd_rom f (r.drop 16) _ n b pc l _ (by simp; omega) (fun y hy => hb y (List.mem_of_mem_drop hy)), List.append_assoc, List.take_append_drop]
theorem pt_end {l : List Sp} {x : Sp} (h : ∀ y ∈ l, y.1 < x.1) (h0 : x.2 ≠ 0) : ptS l x.1 x.2 = l ++ [x] := by
  have := pt_dec (A := l) (B := []) (a := x.1) (v := 0) (b := x.2) h (fun y hy => by cases hy)
  simpa [md, h0] using this
theorem rd_ram : ∀ (l l0 : List Sp) (r : List Int) (n b pc : Int) (i : Int), (∀ x ∈ l, (0 ≤ x.1 ∧ x.1 < 196608) ∧ byt x.2) → (∀ x ∈ l, x.2 ≠ 0) → Ris (l0 ++ l) → rdT (l.map ramR) i (r, n, b, l0, pc) = .go (r, n, b, l0 ++ l, pc)
  | [], l0, r, n, b, pc, i, _, _, _ => by simp [rdT]
  | x :: l, l0, r, n, b, pc, i, hb, h0, hr => by
    have hlt : ∀ y ∈ l0, y.1 < x.1 := fun y hy => (List.pairwise_append.1 hr).2.2 y hy x List.mem_cons_self
    rw [List.map_cons, rdT, tell_ram (hb x List.mem_cons_self)]
    dsimp only
    rw [pt_end hlt (h0 x List.mem_cons_self), rd_ram l (l0 ++ [x]) r n b pc _ (fun y hy => hb y (List.mem_cons_of_mem _ hy)) (fun y hy => h0 y (List.mem_cons_of_mem _ hy)) (by simpa using hr)]
    simp
theorem rom_len2 : ∀ (f : Nat) (r : List Int), (romT f r).length ≤ 2 * r.length + 5 * ((r.length + 15) / 16)
  | 0, r => by simp [romT, rows16, lnsT]
  | f + 1, r => by
    unfold romT
    rw [rows16]
    split
    · simp [lnsT]
    · next h0 =>
      have h1 : 0 < r.length := List.length_pos_iff.2 h0
      have := rom_len2 f (r.drop 16)
      unfold romT at this
      rw [List.map_cons, lnsT_cons, List.length_append, romR_len, List.length_cons]
      simp only [List.length_take, List.length_drop] at this ⊢
      omega
theorem ram_len (l : List Sp) : (ramT l).length = 13 * l.length := by
  induction l with
  | nil => rfl
  | cons x l ih =>
    unfold ramT at *
    rw [List.map_cons, lnsT_cons, List.length_append, ramR_len, List.length_cons, ih, List.length_cons]
    omega
theorem show_len {r : List Int} {n b pc : Int} {l : List Sp} (hr : r.length ≤ 200) (hl : l.length ≤ 60) : (showT r n b l pc).length ≤ 1500 := by
  have h1 := rom_len2 r.length r
  have h2 := ram_len l
  have hlen : (lnsT (headT n b pc)).length = 23 := by simp [lnsT, headT, hxL_len]
  unfold showT
  rw [List.length_append, List.length_append]
  omega
theorem show_read {r : List Int} {n b pc : Int} {l : List Sp} (hrb : ∀ x ∈ r, byt x) (hlb : ∀ x ∈ l, byt x.2) (hp : 0 ≤ pc ∧ pc < 65536) (h : ckS r n b l = true) : readS (showT r n b l pc) = (r, n, b, l, pc, 0, 0) := by
  obtain ⟨hn, hbk, hok⟩ := ck_ok h hlb
  obtain ⟨_, h2, hris⟩ := (ck_iff r n b l).1 h
  have h0 : ∀ x ∈ l, x.2 ≠ 0 := fun x hx => ((bad_iff n x).1 (h2 x hx)).1
  have e : showT r n b l pc = lnsT (headT n b pc ++ ((rows16 r.length r).map romR ++ l.map ramR)) := by
    rw [lnsT_app, lnsT_app]
    unfold showT romT ramT
    rw [List.append_assoc]
  have hnl : ∀ x ∈ headT n b pc ++ ((rows16 r.length r).map romR ++ l.map ramR), ∀ c ∈ x, c ≠ 10 := by
    intro x hx c hc
    rcases List.mem_append.1 hx with hx | hx
    · simp only [headT, List.mem_cons, List.not_mem_nil, or_false] at hx
      rcases hx with rfl | rfl | rfl
      all_goals
        simp only [List.cons_append, List.nil_append, List.mem_cons] at hc
        rcases hc with rfl | hc
        · decide
        · rcases hc with rfl | hc
          · decide
          · rcases hc with rfl | hc
            · decide
            · first
              | exact (hxL_not _ _ _ hc).1
              | (rcases hc with rfl | hc
                 · decide
                 · rcases hc with rfl | hc
                   · decide
                   · first
                     | exact (hxL_not _ _ _ hc).1
                     | (rcases hc with rfl | hc
                        · decide
                        · exact (hxL_not _ _ _ hc).1))
    · rcases List.mem_append.1 hx with hx | hx
      · obtain ⟨y, _, rfl⟩ := List.mem_map.1 hx
        unfold romR at hc
        simp only [List.cons_append, List.nil_append, List.mem_cons] at hc
        rcases hc with rfl | rfl | rfl | rfl | hc
        · decide
        · decide
        · decide
        · decide
        · exact (hexes_not _ _ hc).1
      · obtain ⟨y, _, rfl⟩ := List.mem_map.1 hx
        unfold ramR two at hc
        simp only [List.cons_append, List.nil_append, List.mem_cons, List.mem_append] at hc
        rcases hc with rfl | rfl | rfl | rfl | hc | rfl | hc
        · decide
        · decide
        · decide
        · decide
        · exact (hxL_not _ _ _ hc).1
        · decide
        · exact (hxL_not _ _ _ hc).1
  have hhead : rdT (headT n b pc) 0 ([], 1, 0, [], 0) = .go ([], n, b, [], pc) := by
    unfold headT
    rw [rdT, tell_word (by decide) (by decide), tellW, if_pos rfl, fewO_hx (by omega)]
    dsimp only [Option.map]
    rw [rdT, tell_word (by decide) (by decide), tellW, if_neg (by decide), if_pos rfl, fewO_hx (by omega)]
    dsimp only [Option.map]
    rw [rdT, tell_word (by decide) (by decide), tellW, if_neg (by decide), if_neg (by decide), if_pos rfl, numO_hx (m := 4) (show _ < 65536 by omega)]
    dsimp only [Option.map]
    rw [rdT, Int.toNat_of_nonneg (by omega), Int.toNat_of_nonneg (by omega), Int.toNat_of_nonneg (by omega), IntKind.wrap_u16, Int.emod_eq_of_lt (by omega) (by omega)]
  obtain ⟨j1, e1⟩ := rdT_app (headT n b pc) (((rows16 r.length r).map romR ++ l.map ramR) ++ [[]]) 0 _ _ hhead
  obtain ⟨j2, e2⟩ := rdT_app ((rows16 r.length r).map romR) (l.map ramR ++ [[]]) j1 _ _ (rd_rom r.length r [] n b pc [] j1 (by omega) hrb)
  obtain ⟨j3, e3⟩ := rdT_app (l.map ramR) [[]] j2 _ _ (rd_ram l [] ([] ++ r) n b pc j2 hok h0 (by simpa using hris))
  have efin : rdT [[]] j3 ([] ++ r, n, b, [] ++ l, pc) = .go (r, n, b, l, pc) := by
    rw [rdT, tell, if_pos (.inl rfl)]
    simp [rdT]
  unfold readS
  rw [e, spl_lns _ hnl, List.append_assoc, e1, List.append_assoc, e2, e3, efin]
  simp only [Lp.elim]
  rw [if_pos h]
end Go.Proofs.YtbcepghanbkncaaDoor.Im
