/- Records' bytes, sums and lines: the program's and the reference's are the same. -/
import Derived.Test.YtilgjfckgkkfmaaDoorHx3
import Derived.Test.YtilgjfckgkkfmaaDoorEngText
set_option linter.unusedVariables false
set_option linter.unusedSimpArgs false
namespace Go.Proofs.YtilgjfckgkkfmaaDoor.Hx
open Go.RowKit Go.Eng
def byt (x : Int) : Prop := 0 ≤ x ∧ x < 256
def rawI (k a : Int) (d : List Int) : List Int := [(d.length : Int) % 256, a / 256, a % 256, k] ++ d
def sumI (k a : Int) (d : List Int) : Int := (256 - (rawI k a d).sum % 256) % 256
theorem foldl_sub : ∀ (l : List Int) (s : Int), 0 ≤ s ∧ s < 256 → l.foldl (fun s x => (s - x) % 256) s = (s - l.sum) % 256
  | [], s, h => by simp; omega
  | x :: l, s, h => by
    rw [List.foldl_cons, foldl_sub l _ (by omega), List.sum_cons]
    omega
theorem goSum0 {k a : Int} {d : List Int} {rows : List (List Int)} {n i : Int} {row : List Int} (hr : row.length ≤ 500) {s : Int} (hs : 0 ≤ s ∧ s < 256) :
    hexfile_Sum_17.l0 1000 k a d rows n i row (row.length : Int) 1000 s 0 = some ((s - row.sum) % 256) := by
  rw [← foldl_sub row s hs]
  refine loop0 (fun k' s i' => hexfile_Sum_17.l0 1000 k a d rows n i row (row.length : Int) k' s i') row (fun s x => (s - x) % 256) some (fun _ _ => True) ?_ ?_ (by omega) trivial
  · intro k' s _
    show hexfile_Sum_17.l0 1000 k a d rows n i row (row.length : Int) (k' + 1) s (row.length : Int) = _
    rw [hexfile_Sum_17.l0.eq_2, decide_eq_false (by omega), cond_f]
  · intro k' s j hj _
    refine ⟨?_, trivial⟩
    show hexfile_Sum_17.l0 1000 k a d rows n i row (row.length : Int) (k' + 1) s (j : Int) = _
    rw [hexfile_Sum_17.l0.eq_2, decide_eq_true (by omega), cond_t, inR_nat hj, cond_t, rdD_nat row hj, wrap_nat (by omega), IntKind.wrap_u8]
theorem goSum1 {k a : Int} {d : List Int} {rows : List (List Int)} (hrs : rows.length ≤ 900) (hr : ∀ r ∈ rows, r.length ≤ 500) {s : Int} (hs : 0 ≤ s ∧ s < 256) :
    hexfile_Sum_17.l1 1000 k a d rows (rows.length : Int) 1000 s 0 = some (rows.foldl (fun s r => (s - r.sum) % 256) s) := by
  refine loop0 (fun k' s i' => hexfile_Sum_17.l1 1000 k a d rows (rows.length : Int) k' s i') rows (fun s r => (s - r.sum) % 256) some (fun _ s => 0 ≤ s ∧ s < 256) ?_ ?_ (by omega) hs
  · intro k' s _
    show hexfile_Sum_17.l1 1000 k a d rows (rows.length : Int) (k' + 1) s (rows.length : Int) = _
    rw [hexfile_Sum_17.l1.eq_2, decide_eq_false (by omega), cond_f]
  · intro k' s j hj hI
    refine ⟨?_, by omega⟩
    show hexfile_Sum_17.l1 1000 k a d rows (rows.length : Int) (k' + 1) s (j : Int) = _
    rw [hexfile_Sum_17.l1.eq_2, decide_eq_true (by omega), cond_t, inR_nat hj, cond_t, rdD_nat rows hj, goSum0 (hr _ (List.getElem_mem hj)) hI, Option.bind_some, wrap_nat (by omega)]
theorem hi_lo {a : Int} (ha : 0 ≤ a ∧ a < 65536) : bits_Hi_65.f 1000 a = some (a / 256) ∧ bits_Lo_66.f 1000 a = some (a % 256) := by
  unfold bits_Hi_65.f bits_Lo_66.f
  rw [IntKind.wrap_u8, IntKind.wrap_u8, Int.fdiv_eq_ediv_of_nonneg _ (by decide)]
  refine ⟨?_, rfl⟩
  congr 1
  omega
theorem rhi_lo {a : Int} (ha : 0 ≤ a ∧ a < 65536) : charabancref01_Hi_67.f 1000 a = some (a / 256) ∧ charabancref01_Lo_68.f 1000 a = some (a % 256) := by
  unfold charabancref01_Hi_67.f charabancref01_Lo_68.f
  rw [wrap_i64 (x := a) (by omega) (by omega), IntKind.wrap_u8, IntKind.wrap_u8, Int.tdiv_eq_ediv_of_nonneg (by omega), Int.tmod_eq_emod_of_nonneg (by omega), wrap_i64 (by omega) (by omega)]
  constructor <;> (congr 1; omega)
theorem goSum {k a : Int} {d : List Int} (hd : d.length ≤ 400) (ha : 0 ≤ a ∧ a < 65536) : hexfile_Sum_17.f 1000 k a d = some (sumI k a d) := by
  unfold hexfile_Sum_17.f
  rw [(hi_lo ha).1, (hi_lo ha).2, Option.bind_some, Option.bind_some, goSum1 (by simp) (by simp; omega) (by omega)]
  simp only [Option.bind_some, List.foldl_cons, List.foldl_nil, List.sum_cons, List.sum_nil, IntKind.wrap_u8]
  congr 1
  simp only [sumI, rawI, List.cons_append, List.nil_append, List.sum_cons]
  omega
theorem sumI_byt (k a : Int) (d : List Int) : byt (sumI k a d) := by unfold sumI byt; omega
theorem rawI_byt {k a : Int} {d : List Int} (hk : byt k) (ha : 0 ≤ a ∧ a < 65536) (hd : ∀ x ∈ d, byt x) : ∀ x ∈ rawI k a d, byt x := by
  intro x hx
  simp only [rawI, List.cons_append, List.nil_append, List.mem_cons] at hx
  unfold byt at *
  rcases hx with rfl | rfl | rfl | rfl | hx
  · omega
  · omega
  · omega
  · omega
  · exact hd x hx
theorem rawI_len (k a : Int) (d : List Int) : (rawI k a d).length = d.length + 4 := by simp [rawI]
theorem refRaw {k a : Int} {d : List Int} (hd : d.length ≤ 400) (ha : 0 ≤ a ∧ a < 65536) : charabancref33_raw_31.f 1000 k a d = some (rawI k a d) := by
  unfold charabancref33_raw_31.f
  rw [(rhi_lo ha).1, (rhi_lo ha).2, Option.bind_some, Option.bind_some, mayBe_of (by simp; omega) (by simp; omega), cond_t, IntKind.wrap_u8, Int.tmod_eq_emod_of_nonneg (by omega), rawI]
  congr 3
  omega
theorem refSum {k a : Int} {d : List Int} (hd : d.length ≤ 400) (hk : byt k) (ha : 0 ≤ a ∧ a < 65536) (hb : ∀ x ∈ d, byt x) : charabancref33_Sum_18.f 1000 k a d = some (sumI k a d) := by
  unfold charabancref33_Sum_18.f
  have hbr := rawI_byt hk ha hb
  have hl := rawI_len k a d
  rw [refRaw hd ha, Option.bind_some]
  have e : charabancref33_Sum_18.l0 1000 k a d (rawI k a d) 1000 0 0 = some ((rawI k a d).foldl (fun s x => s + x) 0) := by
    generalize rawI k a d = row at hbr hl ⊢
    refine loop0 (fun k' s i' => charabancref33_Sum_18.l0 1000 k a d row k' s i') row (fun s x => s + x) some (fun i s => 0 ≤ s ∧ s ≤ 256 * i) ?_ ?_ (by omega) (by omega)
    · intro k' s _
      show charabancref33_Sum_18.l0 1000 k a d row (k' + 1) s (row.length : Int) = _
      rw [charabancref33_Sum_18.l0.eq_2, decide_eq_false (by omega), cond_f]
    · intro k' s j hj hI
      have hx := hbr _ (List.getElem_mem hj)
      unfold byt at hx
      refine ⟨?_, by omega⟩
      show charabancref33_Sum_18.l0 1000 k a d row (k' + 1) s (j : Int) = _
      rw [charabancref33_Sum_18.l0.eq_2, decide_eq_true (by omega), cond_t, inR_nat hj, cond_t, rdD_nat row hj, wrap_nat (by omega), wrap_i64 (x := row[j]) (by omega) (by omega), wrap_i64 (by omega) (by omega)]
  have f : ∀ (l : List Int) (s : Int), l.foldl (fun s x => s + x) s = s + l.sum := by
    intro l
    induction l with
    | nil => intro s; simp
    | cons x l ih => intro s; rw [List.foldl_cons, ih, List.sum_cons]; omega
  have g : ∀ l : List Int, (∀ x ∈ l, byt x) → 0 ≤ l.sum := by
    intro l
    induction l with
    | nil => intro _; simp
    | cons x l ih => intro h; rw [List.sum_cons]; have := ih (fun y hy => h y (List.mem_cons_of_mem _ hy)); have := h x List.mem_cons_self; unfold byt at this; omega
  have h0 := g _ hbr
  rw [e, Option.bind_some, f, Int.tmod_eq_emod_of_nonneg (a := 0 + (rawI k a d).sum) (by omega), wrap_i64 (by omega) (by omega), Int.tmod_eq_emod_of_nonneg (by omega), IntKind.wrap_u8, sumI]
  congr 1
  omega
/-! ### lines -/
abbrev D16 : ByteArray := ⟨#[48, 49, 50, 51, 52, 53, 54, 55, 56, 57, 65, 66, 67, 68, 69, 70]⟩
def hxd (n : Int) : Int := btD D16 n
def twoI (b : Int) : List Int := [hxd (b / 16), hxd (b % 16)]
def lineI (k a : Int) (d : List Int) : List Int := 58 :: (rawI k a d ++ [sumI k a d]).flatMap twoI
theorem band15 (x : Int) : band .u8 x 15 = x % 16 := by
  have h1 : (BitVec.ofInt 8 x &&& BitVec.ofInt 8 15).toNat = (x % 16).toNat := by
    rw [BitVec.toNat_and, BitVec.toNat_ofInt, show (BitVec.ofInt 8 15).toNat = 2 ^ 4 - 1 from rfl, Nat.and_two_pow_sub_one_eq_mod]
    omega
  have : band .u8 x 15 = IntKind.wrap .u8 (((BitVec.ofInt 8 x &&& BitVec.ofInt 8 15).toNat : Nat) : Int) := rfl
  rw [this, h1, IntKind.wrap_u8]
  omega
theorem fdiv16 (x : Int) : Int.fdiv x (2 ^ 4) = x / 16 := Int.fdiv_eq_ediv_of_nonneg _ (by decide)
theorem twoI_len (b : Int) : (twoI b).length = 2 := rfl
theorem flat_len : ∀ l : List Int, (l.flatMap twoI).length = 2 * l.length
  | [] => rfl
  | x :: l => by rw [List.flatMap_cons, List.length_append, flat_len l, twoI_len, List.length_cons]; omega
theorem lineI_len (k a : Int) (d : List Int) : (lineI k a d).length = 11 + 2 * d.length := by
  rw [lineI, List.length_cons, flat_len, List.length_append, rawI_len]
  simp; omega
theorem in16 {x : Int} (h : byt x) : inR (x / 16) D16.size = true ∧ inR (x % 16) D16.size = true := by
  unfold byt at h
  simp only [inR, show D16.size = 16 from rfl, Bool.and_eq_true, decide_eq_true_eq]
  omega
theorem foldl_flat : ∀ (l : List Int) (s : List Int), l.foldl (fun s x => s ++ twoI x) s = s ++ l.flatMap twoI
  | [], s => by simp
  | x :: l, s => by rw [List.foldl_cons, foldl_flat l, List.flatMap_cons, List.append_assoc]
theorem goLine0 {k a : Int} {d : List Int} {rows : List (List Int)} {n i : Int} {row : List Int} (hr : row.length ≤ 500) (hb : ∀ x ∈ row, byt x) {s : List Int} (hs : s.length ≤ 100000) :
    hexfile_Line_11.l0 1000 k a d rows n i row (row.length : Int) 1000 s 0 = some (s ++ row.flatMap twoI) := by
  rw [← foldl_flat row s]
  refine loop0 (fun k' s i' => hexfile_Line_11.l0 1000 k a d rows n i row (row.length : Int) k' s i') row (fun s x => s ++ twoI x) some (fun i s => s.length ≤ 100000 + 2 * i) ?_ ?_ (by omega) (by omega)
  · intro k' s _
    show hexfile_Line_11.l0 1000 k a d rows n i row (row.length : Int) (k' + 1) s (row.length : Int) = _
    rw [hexfile_Line_11.l0.eq_2, decide_eq_false (by omega), cond_f]
  · intro k' s j hj hI
    have hx := in16 (hb _ (List.getElem_mem hj))
    refine ⟨?_, by rw [List.length_append, twoI_len]; omega⟩
    show hexfile_Line_11.l0 1000 k a d rows n i row (row.length : Int) (k' + 1) s (j : Int) = _
    rw [hexfile_Line_11.l0.eq_2, decide_eq_true (by omega), cond_t, inR_nat hj, cond_t, rdD_nat row hj, fdiv16, band15, hx.1, cond_t, hx.2, cond_t, mayBe_of (by simp; omega) (by simp; omega), cond_t, wrap_nat (by omega)]
    rfl
theorem goLine1 {k a : Int} {d : List Int} {rows : List (List Int)} (hrs : rows.length ≤ 90) (hr : ∀ r ∈ rows, r.length ≤ 500) (hb : ∀ r ∈ rows, ∀ x ∈ r, byt x) {s : List Int} (hs : s.length ≤ 1000) :
    hexfile_Line_11.l1 1000 k a d rows (rows.length : Int) 1000 s 0 = some (rows.foldl (fun s r => s ++ r.flatMap twoI) s) := by
  refine loop0 (fun k' s i' => hexfile_Line_11.l1 1000 k a d rows (rows.length : Int) k' s i') rows (fun s r => s ++ r.flatMap twoI) some (fun i s => s.length ≤ 1000 + 1000 * i) ?_ ?_ (by omega) (by omega)
  · intro k' s _
    show hexfile_Line_11.l1 1000 k a d rows (rows.length : Int) (k' + 1) s (rows.length : Int) = _
    rw [hexfile_Line_11.l1.eq_2, decide_eq_false (by omega), cond_f]
  · intro k' s j hj hI
    have h5 := hr _ (List.getElem_mem hj)
    refine ⟨?_, by rw [List.length_append, flat_len]; omega⟩
    show hexfile_Line_11.l1 1000 k a d rows (rows.length : Int) (k' + 1) s (j : Int) = _
    rw [hexfile_Line_11.l1.eq_2, decide_eq_true (by omega), cond_t, inR_nat hj, cond_t, rdD_nat rows hj, goLine0 h5 (hb _ (List.getElem_mem hj)) (by omega), Option.bind_some, wrap_nat (by omega)]
/-- A line, or that there is too much. -/
def lineS (k a : Int) (d : List Int) : ByteArray × Int := if 255 < d.length then (⟨#[]⟩, 2) else (strOf (lineI k a d), 0)
theorem goLine {k a : Int} {d : List Int} (hd : d.length ≤ 400) (hk : byt k) (ha : 0 ≤ a ∧ a < 65536) (hb : ∀ x ∈ d, byt x) : hexfile_Line_11.f 1000 k a d = some (lineS k a d) := by
  unfold hexfile_Line_11.f lineS
  by_cases h : 255 < d.length
  · rw [decide_eq_true (by omega), cond_t, if_pos h]
  · have hr : rawI k a d = [IntKind.wrap .u8 (d.length : Int), a / 256, a % 256, k] ++ d := by rw [rawI, IntKind.wrap_u8]
    have hbr := rawI_byt hk ha hb
    rw [hr] at hbr
    have hx := in16 (sumI_byt k a d)
    rw [decide_eq_false (by omega), cond_f, if_neg h, (hi_lo ha).1, (hi_lo ha).2, Option.bind_some, Option.bind_some, goLine1 (by simp) (by simp; omega) (by
      intro r hr' x hx'
      simp only [List.mem_cons, List.not_mem_nil, or_false] at hr'
      rcases hr' with rfl | rfl
      · exact hbr x (List.mem_append_left _ hx')
      · exact hb x hx') (by simp)]
    simp only [List.foldl_cons, List.foldl_nil]
    rw [Option.bind_some, goSum hd ha, Option.bind_some, fdiv16, band15, hx.1, cond_t, hx.2, cond_t, mayBe_of (by simp only [List.length_append, flat_len, List.length_cons, List.length_nil]; omega) (by simp only [List.length_append, flat_len, List.length_cons, List.length_nil]; omega), cond_t]
    congr 3
    rw [lineI, hr, List.flatMap_append, List.flatMap_append]
    simp [twoI, hxd]
def toB (n : Int) : UInt8 := UInt8.ofNat n.toNat
theorem refTwo {x : Int} (hx : byt x) : charabancref33_two_32.f 1000 x = some (ba ((twoI x).map toB)) := by
  have h : ∀ x : Fin 256, charabancref33_two_32.f 1000 (x.val : Int) = some (ba ((twoI (x.val : Int)).map toB)) := by decide +kernel
  unfold byt at hx
  have := h ⟨x.toNat, by omega⟩
  simpa [Int.toNat_of_nonneg hx.1] using this
theorem foldl_ba : ∀ (l : List Int) (s : List UInt8), l.foldl (fun s x => s ++ ba ((twoI x).map toB)) (ba s) = ba (s ++ (l.flatMap twoI).map toB)
  | [], s => by simp
  | x :: l, s => by rw [List.foldl_cons, ba_app, foldl_ba l, List.flatMap_cons, List.map_append, List.append_assoc]
theorem refLine {k a : Int} {d : List Int} (hd : d.length ≤ 400) (hk : byt k) (ha : 0 ≤ a ∧ a < 65536) (hb : ∀ x ∈ d, byt x) : charabancref33_Line_12.f 1000 k a d = some (lineS k a d) := by
  unfold charabancref33_Line_12.f lineS
  by_cases h : 255 < d.length
  · rw [decide_eq_true (by omega), cond_t, if_pos h]
  · have hbr := rawI_byt hk ha hb
    have hl := rawI_len k a d
    rw [decide_eq_false (by omega), cond_f, if_neg h, refRaw hd ha, Option.bind_some]
    have e : charabancref33_Line_12.l0 1000 k a d (rawI k a d) 1000 (⟨#[58]⟩ : ByteArray) 0 = some (ba ([58] ++ ((rawI k a d).flatMap twoI).map toB)) := by
      rw [← foldl_ba]
      generalize rawI k a d = row at hbr hl ⊢
      refine loop0 (fun k' s i' => charabancref33_Line_12.l0 1000 k a d row k' s i') row (fun s x => s ++ ba ((twoI x).map toB)) some (fun i s => s.size ≤ 1 + 2 * i) ?_ ?_ (by omega) (by decide)
      · intro k' s _
        show charabancref33_Line_12.l0 1000 k a d row (k' + 1) s (row.length : Int) = _
        rw [charabancref33_Line_12.l0.eq_2, decide_eq_false (by omega), cond_f]
      · intro k' s j hj hI
        have h2 : (ba ((twoI row[j]).map toB)).size = 2 := by rw [ba_size]; rfl
        refine ⟨?_, by rw [ByteArray.size_append, h2]; omega⟩
        show charabancref33_Line_12.l0 1000 k a d row (k' + 1) s (j : Int) = _
        rw [charabancref33_Line_12.l0.eq_2, decide_eq_true (by omega), cond_t, inR_nat hj, cond_t, rdD_nat row hj, refTwo (hbr _ (List.getElem_mem hj)), Option.bind_some, cat_of (by omega), cond_t, wrap_nat (by omega)]
    rw [e, Option.bind_some, refSum hd hk ha hb, Option.bind_some, refTwo (sumI_byt k a d), Option.bind_some, cat_of (by simp only [ba_size, List.length_append, List.length_map, flat_len, hl, twoI_len, List.length_cons, List.length_nil]; omega), cond_t, ba_app, strOf_ba]
    congr 3
    rw [lineI, List.flatMap_append]
    simp only [List.flatMap_cons, List.flatMap_nil, List.append_nil, List.map_cons, List.map_append]
    rfl
end Go.Proofs.YtilgjfckgkkfmaaDoor.Hx
