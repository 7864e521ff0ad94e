/- A config's text: the program's and the reference's are the same. -/
import Derived.Test.YtbcepghanbkncaaDoorImLibE
set_option linter.unusedVariables false
set_option linter.unusedSimpArgs false
namespace Go.Proofs.YtbcepghanbkncaaDoor.Im
open Go.RowKit Go.Eng
theorem plain_eq {r : List Int} {n b pc : Int} {l : List Sp} (hl : l.length ≤ 1900) : charabanclaw30_plain_12.f 2000 r n b l pc = some (r, n, b, l, pc) := by
  unfold charabanclaw30_plain_12.f
  have e : charabanclaw30_plain_12.l0 2000 r n b l pc 2000 ([] : List Sp) 0 = some (l.foldl (fun s x => s ++ [x]) []) := by
    refine loop0 (fun k s i => charabanclaw30_plain_12.l0 2000 r n b l pc k s i) l (fun s x => s ++ [x]) some (fun i s => s.length = i) ?_ ?_ (by omega) rfl
    · intro k s _
      show charabanclaw30_plain_12.l0 2000 r n b l pc (k + 1) s (l.length : Int) = _
      rw [charabanclaw30_plain_12.l0.eq_2, decide_eq_false (by omega), cond_f]
    · intro k s j hj hI
      refine ⟨?_, by simp [hI]⟩
      show charabanclaw30_plain_12.l0 2000 r n b l pc (k + 1) s (j : Int) = _
      rw [charabanclaw30_plain_12.l0.eq_2, decide_eq_true (by omega), cond_t, inR_nat hj, cond_t, rdD_nat l hj, mayBe_of (by simp; omega) (by simp; omega), cond_t, wrap_nat (by omega)]
  have f : ∀ (l s : List Sp), l.foldl (fun s x => s ++ [x]) s = s ++ l := by
    intro l
    induction l with
    | nil => intro s; simp
    | cons x l ih => intro s; rw [List.foldl_cons, ih]; simp
  rw [e, Option.bind_some, f]
  rfl
theorem same30 {r : List Int} {n b pc : Int} {l : List Sp} (hl : l.length ≤ 1900) : charabancref30_Same_11.f 2000 r n b l pc r n b l pc = some true := by
  unfold charabancref30_Same_11.f
  rw [same_eq (by omega) (by omega), Option.bind_some, cond_t, beq_self_eq_true]
/-! ### rows -/
theorem join_two {a b : List UInt8} (ha : a.length + b.length ≤ 1000) : strings_Join_31.f 2000 ([ba a, ba b] : List ByteArray) (⟨#[32]⟩ : ByteArray) = some (ba (a ++ 32 :: b)) := by
  have e : Lib.join ([ba a, ba b].map (·.data.toList)) (⟨#[32]⟩ : ByteArray).data.toList = a ++ 32 :: b := by
    show List.intercalate [32] [a, b] = _
    simp [List.intercalate]
  unfold strings_Join_31.f joinR
  rw [e, show Nat.ble [ba a, ba b].length 140737488355328 = true from rfl, show Nat.ble (a ++ 32 :: b).length 140737488355328 = true from Nat.ble_eq_true_of_le (by simp; omega)]
  rfl
theorem join_three {a b d : List UInt8} (ha : a.length + b.length + d.length ≤ 1000) : strings_Join_31.f 2000 ([ba a, ba b, ba d] : List ByteArray) (⟨#[32]⟩ : ByteArray) = some (ba (a ++ 32 :: (b ++ 32 :: d))) := by
  have e : Lib.join ([ba a, ba b, ba d].map (·.data.toList)) (⟨#[32]⟩ : ByteArray).data.toList = a ++ 32 :: (b ++ 32 :: d) := by
    show List.intercalate [32] [a, b, d] = _
    simp [List.intercalate]
  unfold strings_Join_31.f joinR
  rw [e, show Nat.ble [ba a, ba b, ba d].length 140737488355328 = true from rfl, show Nat.ble (a ++ 32 :: (b ++ 32 :: d)).length 140737488355328 = true from Nat.ble_eq_true_of_le (by simp; omega)]
  rfl
def romR (x : List Int) : List UInt8 := [114, 111, 109] ++ 32 :: hexes x
def ramR (x : Sp) : List UInt8 := [114, 97, 109] ++ 32 :: (hxL 5 x.1.toNat ++ 32 :: two x.2)
/-- Rows of 16. -/
def rows16 : Nat → List Int → List (List Int)
  | 0, _ => []
  | f + 1, r => if r = [] then [] else r.take 16 :: rows16 f (r.drop 16)
def lnsT (l : List (List UInt8)) : List UInt8 := l.flatMap fun x => x ++ [10]
def romT (f : Nat) (r : List Int) : List UInt8 := lnsT ((rows16 f r).map romR)
def ramT (l : List Sp) : List UInt8 := lnsT (l.map ramR)
def headT (n bk pc : Int) : List (List UInt8) := [[98, 97, 110, 107, 115] ++ 32 :: hxL 1 n.toNat, [98, 97, 110, 107] ++ 32 :: hxL 1 bk.toNat, [112, 99] ++ 32 :: hxL 4 pc.toNat]
def showT (r : List Int) (n bk : Int) (l : List Sp) (pc : Int) : List UInt8 := lnsT (headT n bk pc) ++ romT r.length r ++ ramT l
theorem romR_len (x : List Int) : (romR x).length = 4 + 2 * x.length := by unfold romR; simp [hexes_len]; omega
theorem ramR_len (x : Sp) : (ramR x).length = 12 := by unfold ramR two; simp [hxL_len]
theorem lnsT_cons (x : List UInt8) (l : List (List UInt8)) : lnsT (x :: l) = x ++ 10 :: lnsT l := by simp [lnsT]
theorem lnsT_app (a b : List (List UInt8)) : lnsT (a ++ b) = lnsT a ++ lnsT b := by simp [lnsT]
theorem app_nl (l : List UInt8) : (ba l ++ (⟨#[10]⟩ : ByteArray)) = ba (l ++ [10]) := ba_app l [10]
/-- The program's rows of ROM. -/
theorem goRom {r : List Int} {n b pc : Int} {l : List Sp} (hr : r.length ≤ 200) (hb : ∀ x ∈ r, byt x) : ∀ (f k i : Nat) (s : List UInt8), r.length - i ≤ 16 * f → f < k → s.length ≤ 100000 - 100 * f → f ≤ 900 → i ≤ 3000 →
    image_Show_16.l0 2000 r n b l pc k s (i : Int) = some (s ++ romT f (r.drop i))
  | f, 0, i, s, _, hk, _, _, _ => by omega
  | 0, k + 1, i, s, hf, _, hs, _, _ => by
    rw [image_Show_16.l0.eq_2, decide_eq_false (by omega), cond_f]
    simp [romT, rows16, lnsT]
  | f + 1, k + 1, i, s, hf, hk, hs, h9, hi3 => by
    rw [image_Show_16.l0.eq_2]
    by_cases h0 : i < r.length
    · have hc1 : (cutL r (i : Int) (r.length : Int)).length = r.length - i := by simp [cutL]
      have hif : (i : Int) + (if ((r.length - i : Nat) : Int) < 16 then ((r.length - i : Nat) : Int) else 16) = ((min r.length (i + 16) : Nat) : Int) := by split <;> omega
      have hcut : cutL r (i : Int) ((min r.length (i + 16) : Nat) : Int) = (r.drop i).take 16 := by
        unfold cutL
        rw [Int.toNat_natCast, Int.toNat_natCast, List.drop_take]
        by_cases h : i + 16 ≤ r.length
        · rw [show min r.length (i + 16) - i = 16 by omega]
        · rw [List.take_of_length_le (by simp; omega), List.take_of_length_le (by simp; omega)]
      have hne : r.drop i ≠ [] := by simpa using h0
      have hbb : ∀ x ∈ (r.drop i).take 16, byt x := fun x hx => hb x (List.mem_of_mem_drop (List.mem_of_mem_take hx))
      have hl16 : ((r.drop i).take 16).length ≤ 16 := by simp; omega
      have hrl := romR_len ((r.drop i).take 16)
      rw [decide_eq_true (by omega), cond_t, cutR_of (by omega) (by omega) (by omega), cond_t, hc1, hif, wrap_i64 (x := ((min r.length (i + 16) : Nat) : Int)) (by omega) (by omega), cutR_of (by omega) (by omega) (by omega), cond_t, hcut, goDigits hbb (by omega), Option.bind_some,
        show (⟨#[114, 111, 109]⟩ : ByteArray) = ba [114, 111, 109] from rfl, join_two (by rw [hexes_len]; simp; omega), Option.bind_some, show [114, 111, 109] ++ 32 :: hexes ((r.drop i).take 16) = romR ((r.drop i).take 16) from rfl, cat_of (by rw [ba_size, hrl]; show _ + 1 ≤ _; omega), cond_t, app_nl,
        show bldR s.length (ba (romR ((r.drop i).take 16) ++ [10])).size = true from Nat.ble_eq_true_of_le (by rw [ba_size, List.length_append, hrl]; simp; omega), cond_t, wrap_i64 (x := (i : Int) + 16) (by omega) (by omega), show (i : Int) + 16 = ((i + 16 : Nat) : Int) by omega]
      rw [goRom hr hb f k (i + 16) _ (by omega) (by omega) (by rw [List.length_append, ba_list, List.length_append, hrl]; simp; omega) (by omega) (by omega)]
      unfold romT
      rw [rows16, if_neg hne, List.map_cons, lnsT_cons, List.drop_drop, ba_list]
      simp
    · rw [decide_eq_false (by omega), cond_f]
      unfold romT
      rw [rows16, if_pos (List.drop_of_length_le (by omega))]
      simp [lnsT]
theorem goRam2 {r : List Int} {n b pc : Int} {l : List Sp} (hl : l.length ≤ 60) (hb : ∀ x ∈ l, (0 ≤ x.1 ∧ x.1 < 196608) ∧ byt x.2) {s : List UInt8} (hs : s.length ≤ 200000) :
    image_Show_16.l1 2000 r n b l pc 2000 s 0 = some (s ++ ramT l) := by
  have e : image_Show_16.l1 2000 r n b l pc 2000 s 0 = some (l.foldl (fun s x => s ++ (ramR x ++ [10])) s) := by
    refine loop0 (fun k s i => image_Show_16.l1 2000 r n b l pc k s i) l (fun s x => s ++ (ramR x ++ [10])) some (fun i s => s.length ≤ 200000 + 13 * i) ?_ ?_ (by omega) hs
    · intro k s _
      show image_Show_16.l1 2000 r n b l pc (k + 1) s (l.length : Int) = _
      rw [image_Show_16.l1.eq_2, decide_eq_false (by omega), cond_f]
    · intro k s j hj hI
      have hx := hb _ (List.getElem_mem hj)
      refine ⟨?_, by rw [List.length_append, List.length_append, ramR_len]; simp; omega⟩
      show image_Show_16.l1 2000 r n b l pc (k + 1) s (j : Int) = _
      rw [image_Show_16.l1.eq_2, decide_eq_true (by omega), cond_t, inR_nat hj, cond_t, rdD_nat l hj, wrap_nat (by omega)]
      generalize l[j] = x at hx
      obtain ⟨⟨hx1, hx2⟩, hx3⟩ := hx
      unfold byt at hx3
      have h1 := goHex (u := x.1.toNat) (many := 5) (by omega) (by omega) (by show _ < 1048576; omega)
      have h2 := goHex (u := x.2.toNat) (many := 2) (by omega) (by omega) (by show _ < 256; omega)
      rw [Int.toNat_of_nonneg hx1] at h1
      rw [Int.toNat_of_nonneg hx3.1] at h2
      rw [show (5 : Int) = ((5 : Nat) : Int) from rfl, h1, Option.bind_some, wrap_i64 (x := x.2) (by omega) (by omega), show (2 : Int) = ((2 : Nat) : Int) from rfl, h2, Option.bind_some, show (⟨#[114, 97, 109]⟩ : ByteArray) = ba [114, 97, 109] from rfl, join_three (by rw [hxL_len, hxL_len]; simp), Option.bind_some,
        show [114, 97, 109] ++ 32 :: (hxL 5 x.1.toNat ++ 32 :: hxL 2 x.2.toNat) = ramR x from rfl, cat_of (by rw [ba_size, ramR_len]; show _ + 1 ≤ _; omega), cond_t, app_nl, show bldR s.length (ba (ramR x ++ [10])).size = true from Nat.ble_eq_true_of_le (by rw [ba_size, List.length_append, ramR_len]; simp; omega), cond_t]
      rfl
  have f : ∀ (l : List Sp) (s : List UInt8), l.foldl (fun s x => s ++ (ramR x ++ [10])) s = s ++ ramT l := by
    intro l
    induction l with
    | nil => intro s; simp [ramT, lnsT]
    | cons x l ih => intro s; rw [List.foldl_cons, ih]; simp [ramT, lnsT]
  rw [e, f]
/-- What a config that may be holds. -/
theorem ck_ok {r : List Int} {n bk : Int} {l : List Sp} (h : ckS r n bk l = true) (hb : ∀ x ∈ l, byt x.2) : (1 ≤ n ∧ n ≤ 8) ∧ (0 ≤ bk ∧ bk < n) ∧ ∀ x ∈ l, (0 ≤ x.1 ∧ x.1 < 196608) ∧ byt x.2 := by
  obtain ⟨h1, h2, _⟩ := (ck_iff r n bk l).1 h
  simp only [hdS, Bool.and_eq_true, decide_eq_true_eq] at h1
  refine ⟨by omega, by omega, fun x hx => ⟨?_, hb x hx⟩⟩
  have := (bad_iff n x).1 (h2 x hx)
  omega
theorem rom_len : ∀ (f : Nat) (r : List Int), (romT f r).length ≤ 40 * f + 3 * r.length
  | 0, r => by simp [romT, rows16, lnsT]
  | f + 1, r => by
    unfold romT
    rw [rows16]
    split
    · simp [lnsT]
    · have := rom_len f (r.drop 16)
      unfold romT at this
      rw [List.map_cons, lnsT_cons, List.length_append, romR_len, List.length_cons]
      simp only [List.length_take, List.length_drop] at this ⊢
      omega
theorem chk {r : List Int} {n b pc : Int} {l : List Sp} (hl : l.length ≤ 1900) : image_Check_18.f 2000 r n b l pc = some (if ckS r n b l then 0 else 140) := by
  unfold image_Check_18.f
  rw [check_eq (by omega) (by omega) (by omega), Option.bind_some]
theorem rchk {r : List Int} {n b pc : Int} {l : List Sp} (hl : l.length ≤ 1900) : charabancref30_Check_19.f 2000 r n b l pc = some (if ckS r n b l then 0 else 140) := by
  unfold charabancref30_Check_19.f
  rw [rcheck_eq (by omega) (by omega), Option.bind_some]
theorem goShow {r : List Int} {n b pc : Int} {l : List Sp} (hr : r.length ≤ 200) (hl : l.length ≤ 60) (hrb : ∀ x ∈ r, byt x) (hlb : ∀ x ∈ l, byt x.2) (hp : 0 ≤ pc ∧ pc < 65536) :
    image_Show_16.f 2000 r n b l pc = some (ba (if ckS r n b l then showT r n b l pc else [])) := by
  unfold image_Show_16.f
  rw [chk (by omega), Option.bind_some]
  by_cases h : ckS r n b l = true
  · rw [if_pos h, if_pos h]
    obtain ⟨hn, hbk, hok⟩ := ck_ok h hlb
    have h1 := goHex (u := n.toNat) (many := 1) (by omega) (by omega) (by show _ < 16; omega)
    have h2 := goHex (u := b.toNat) (many := 1) (by omega) (by omega) (by show _ < 16; omega)
    have h3 := goHex (u := pc.toNat) (many := 4) (by omega) (by omega) (by show _ < 65536; omega)
    rw [Int.toNat_of_nonneg (by omega)] at h1 h2 h3
    have hrl := rom_len r.length r
    have hq : ∀ s : List UInt8, s.length ≤ 100 → ((image_Show_16.l0 2000 r n b l pc 2000 s 0).bind fun t231 => (image_Show_16.l1 2000 r n b l pc 2000 t231 0).bind fun t305 => cond (Nat.blt 0 t305.length) (some (⟨List.toArray t305⟩ : ByteArray)) none) = some (if 0 < (s ++ romT r.length r ++ ramT l).length then (ba (s ++ romT r.length r ++ ramT l)) else ba []) ∨ (s ++ romT r.length r ++ ramT l).length = 0 := by
      intro s hs
      have := goRom (r := r) (n := n) (b := b) (pc := pc) (l := l) hr hrb r.length 2000 0 s (by omega) (by omega) (by omega) (by omega) (by omega)
      rw [show ((0 : Nat) : Int) = 0 from rfl, List.drop_zero] at this
      rw [this, Option.bind_some, goRam2 hl hok (by rw [List.length_append]; omega), Option.bind_some]
      by_cases hz : 0 < (s ++ romT r.length r ++ ramT l).length
      · refine .inl ?_
        rw [if_pos hz, show Nat.blt 0 (s ++ romT r.length r ++ ramT l).length = true from by simpa [Nat.blt_eq] using hz, cond_t]
        rfl
      · exact .inr (by omega)
    rw [show (((0 : Int)) != 0) = false from rfl, cond_f, show (1 : Int) = ((1 : Nat) : Int) from rfl, h1, Option.bind_some, show (⟨#[98, 97, 110, 107, 115]⟩ : ByteArray) = ba [98, 97, 110, 107, 115] from rfl, join_two (by rw [hxL_len]; simp), Option.bind_some, cat_of (by rw [ba_size]; show _ + 1 ≤ _; simp [hxL_len]), cond_t, app_nl,
      show bldR ([] : List UInt8).length (ba ([98, 97, 110, 107, 115] ++ 32 :: hxL 1 n.toNat ++ [10])).size = true from Nat.ble_eq_true_of_le (by rw [ba_size]; simp [hxL_len]), cond_t, h2, Option.bind_some, show (⟨#[98, 97, 110, 107]⟩ : ByteArray) = ba [98, 97, 110, 107] from rfl, join_two (by rw [hxL_len]; simp), Option.bind_some, cat_of (by rw [ba_size]; show _ + 1 ≤ _; simp [hxL_len]), cond_t, app_nl, ba_list, List.nil_append,
      show bldR ([98, 97, 110, 107, 115] ++ 32 :: hxL 1 n.toNat ++ [10] : List UInt8).length (ba ([98, 97, 110, 107] ++ 32 :: hxL 1 b.toNat ++ [10])).size = true from Nat.ble_eq_true_of_le (by rw [ba_size]; simp [hxL_len]), cond_t, wrap_i64 (x := pc) (by omega) (by omega), show (4 : Int) = ((4 : Nat) : Int) from rfl, h3, Option.bind_some, show (⟨#[112, 99]⟩ : ByteArray) = ba [112, 99] from rfl, join_two (by rw [hxL_len]; simp), Option.bind_some, cat_of (by rw [ba_size]; show _ + 1 ≤ _; simp [hxL_len]), cond_t, app_nl, ba_list,
      show bldR ([98, 97, 110, 107, 115] ++ 32 :: hxL 1 n.toNat ++ [10] ++ ([98, 97, 110, 107] ++ 32 :: hxL 1 b.toNat ++ [10]) : List UInt8).length (ba ([112, 99] ++ 32 :: hxL 4 pc.toNat ++ [10])).size = true from Nat.ble_eq_true_of_le (by rw [ba_size]; simp [hxL_len]), cond_t, ba_list]
    have hhead : ([98, 97, 110, 107, 115] ++ 32 :: hxL 1 n.toNat ++ [10] ++ ([98, 97, 110, 107] ++ 32 :: hxL 1 b.toNat ++ [10]) ++ ([112, 99] ++ 32 :: hxL 4 pc.toNat ++ [10]) : List UInt8) = lnsT (headT n b pc) := by simp [lnsT, headT]
    rw [hhead]
    have hlen : (lnsT (headT n b pc)).length = 23 := by simp [lnsT, headT, hxL_len]
    rcases hq (lnsT (headT n b pc)) (by omega) with e | e
    · rw [e, if_pos (by rw [List.length_append, List.length_append]; omega)]
      rfl
    · rw [List.length_append, List.length_append] at e; omega
  · rw [if_neg h, if_neg h]
    rfl
/-! ### the reference's -/
theorem refRom {r : List Int} {n b pc : Int} {l : List Sp} (hr : r.length ≤ 200) (hb : ∀ x ∈ r, byt x) : ∀ (f k i : Nat) (s : List UInt8), r.length - i ≤ 16 * f → f < k → s.length ≤ 100000 - 100 * f → f ≤ 900 → i ≤ 3000 →
    charabancref30_Show_17.l0 2000 r n b l pc k (ba s) (i : Int) = some (ba (s ++ romT f (r.drop i)))
  | f, 0, i, s, _, hk, _, _, _ => by omega
  | 0, k + 1, i, s, hf, _, hs, _, _ => by
    rw [charabancref30_Show_17.l0.eq_2, decide_eq_false (by omega), cond_f]
    simp [romT, rows16, lnsT]
  | f + 1, k + 1, i, s, hf, hk, hs, h9, hi3 => by
    rw [charabancref30_Show_17.l0.eq_2]
    by_cases h0 : i < r.length
    · have hif : (if (r.length : Int) < (i : Int) + 16 then (r.length : Int) else (i : Int) + 16) = ((min r.length (i + 16) : Nat) : Int) := by split <;> omega
      have hcut : cutL r (i : Int) ((min r.length (i + 16) : Nat) : Int) = (r.drop i).take 16 := by
        unfold cutL
        rw [Int.toNat_natCast, Int.toNat_natCast, List.drop_take]
        by_cases h : i + 16 ≤ r.length
        · rw [show min r.length (i + 16) - i = 16 by omega]
        · rw [List.take_of_length_le (by simp; omega), List.take_of_length_le (by simp; omega)]
      have hne : r.drop i ≠ [] := by simpa using h0
      have hbb : ∀ x ∈ (r.drop i).take 16, byt x := fun x hx => hb x (List.mem_of_mem_drop (List.mem_of_mem_take hx))
      have hl16 : ((r.drop i).take 16).length ≤ 16 := by simp; omega
      have hrl := romR_len ((r.drop i).take 16)
      have hhl := hexes_len ((r.drop i).take 16)
      rw [decide_eq_true (by omega), cond_t, show (⟨#[114, 111, 109, 32]⟩ : ByteArray) = ba [114, 111, 109, 32] from rfl, show (⟨#[10]⟩ : ByteArray) = ba [10] from rfl, ba_app, ba_size, ba_size, cat_of (by simp; omega), cond_t, wrap_i64 (x := (i : Int) + 16) (by omega) (by omega), hif, cutR_of (by omega) (by omega) (by omega), cond_t, hcut, refDigits hbb (by omega), Option.bind_some,
        ba_size, ba_size, cat_of (by simp; omega), cond_t, ba_app, ba_size, ba_size, cat_of (by simp; omega), cond_t, ba_app, show (i : Int) + 16 = ((i + 16 : Nat) : Int) by omega]
      rw [refRom hr hb f k (i + 16) _ (by omega) (by omega) (by simp; omega) (by omega) (by omega)]
      unfold romT
      rw [rows16, if_neg hne, List.map_cons, lnsT_cons, List.drop_drop]
      simp [romR]
    · rw [decide_eq_false (by omega), cond_f]
      unfold romT
      rw [rows16, if_pos (List.drop_of_length_le (by omega))]
      simp [lnsT]
theorem refRam2 {r : List Int} {n b pc : Int} {l : List Sp} (hl : l.length ≤ 60) (hb : ∀ x ∈ l, (0 ≤ x.1 ∧ x.1 < 196608) ∧ byt x.2) {s : List UInt8} (hs : s.length ≤ 200000) :
    charabancref30_Show_17.l1 2000 r n b l pc 2000 (ba s) 0 = some (ba (s ++ ramT l)) := by
  have e : charabancref30_Show_17.l1 2000 r n b l pc 2000 (ba s) 0 = some (ba (l.foldl (fun s x => s ++ (ramR x ++ [10])) s)) := by
    refine loop0 (fun k s i => charabancref30_Show_17.l1 2000 r n b l pc k (ba s) i) l (fun s x => s ++ (ramR x ++ [10])) (fun s => some (ba s)) (fun i s => s.length ≤ 200000 + 13 * i) ?_ ?_ (by omega) hs
    · intro k s _
      show charabancref30_Show_17.l1 2000 r n b l pc (k + 1) (ba s) (l.length : Int) = _
      rw [charabancref30_Show_17.l1.eq_2, decide_eq_false (by omega), cond_f]
    · intro k s j hj hI
      have hx := hb _ (List.getElem_mem hj)
      refine ⟨?_, by rw [List.length_append, List.length_append, ramR_len]; simp; omega⟩
      show charabancref30_Show_17.l1 2000 r n b l pc (k + 1) (ba s) (j : Int) = _
      rw [charabancref30_Show_17.l1.eq_2, decide_eq_true (by omega), cond_t]
      rw [show (⟨#[114, 97, 109, 32]⟩ : ByteArray) = ba [114, 97, 109, 32] from rfl, show (⟨#[32]⟩ : ByteArray) = ba [32] from rfl, show (⟨#[10]⟩ : ByteArray) = ba [10] from rfl, ba_size, ba_size, cat_of (by simp; omega), cond_t, inR_nat hj, cond_t, rdD_nat l hj, wrap_nat (by omega)]
      generalize l[j] = x at hx
      obtain ⟨⟨hx1, hx2⟩, hx3⟩ := hx
      unfold byt at hx3
      have h1 := refHex (u := x.1.toNat) (many := 5) (by omega) (by omega)
      have h2 := refHex (u := x.2.toNat) (many := 2) (by omega) (by omega)
      rw [Int.toNat_of_nonneg hx1] at h1
      rw [Int.toNat_of_nonneg hx3.1] at h2
      rw [show (5 : Int) = ((5 : Nat) : Int) from rfl, h1, Option.bind_some, ba_app, ba_size, ba_size, cat_of (by simp [hxL_len, ba_size]; omega), cond_t, ba_app, ba_size, cat_of (by simp [hxL_len, ba_size]; omega), cond_t, ba_app, wrap_i64 (x := x.2) (by omega) (by omega), show (2 : Int) = ((2 : Nat) : Int) from rfl, h2, Option.bind_some,
        ba_size, ba_size, cat_of (by simp [hxL_len, ba_size]; omega), cond_t, ba_app, ba_size, cat_of (by simp [hxL_len, ba_size]; omega), cond_t, ba_app]
      simp [ramR, two]
  have f : ∀ (l : List Sp) (s : List UInt8), l.foldl (fun s x => s ++ (ramR x ++ [10])) s = s ++ ramT l := by
    intro l
    induction l with
    | nil => intro s; simp [ramT, lnsT]
    | cons x l ih => intro s; rw [List.foldl_cons, ih]; simp [ramT, lnsT]
  rw [e, f]
theorem refShow {r : List Int} {n b pc : Int} {l : List Sp} (hr : r.length ≤ 200) (hl : l.length ≤ 60) (hrb : ∀ x ∈ r, byt x) (hlb : ∀ x ∈ l, byt x.2) (hp : 0 ≤ pc ∧ pc < 65536) :
    charabancref30_Show_17.f 2000 r n b l pc = some (ba (if ckS r n b l then showT r n b l pc else [])) := by
  unfold charabancref30_Show_17.f
  rw [rchk (by omega), Option.bind_some]
  by_cases h : ckS r n b l = true
  · rw [if_pos h, if_pos h]
    obtain ⟨hn, hbk, hok⟩ := ck_ok h hlb
    have h1 := refHex (u := n.toNat) (many := 1) (by omega) (by omega)
    have h2 := refHex (u := b.toNat) (many := 1) (by omega) (by omega)
    have h3 := refHex (u := pc.toNat) (many := 4) (by omega) (by omega)
    rw [Int.toNat_of_nonneg (by omega)] at h1 h2 h3
    have hrl := rom_len r.length r
    rw [show (((0 : Int)) != 0) = false from rfl, cond_f, show (⟨#[98, 97, 110, 107, 115, 32]⟩ : ByteArray) = ba [98, 97, 110, 107, 115, 32] from rfl, show (⟨#[10, 98, 97, 110, 107, 32]⟩ : ByteArray) = ba [10, 98, 97, 110, 107, 32] from rfl, show (⟨#[10, 112, 99, 32]⟩ : ByteArray) = ba [10, 112, 99, 32] from rfl, show (⟨#[10]⟩ : ByteArray) = ba [10] from rfl,
      show (1 : Int) = ((1 : Nat) : Int) from rfl, h1, Option.bind_some, ba_size, ba_size, cat_of (by simp [hxL_len]), cond_t, ba_app, ba_size, ba_size, cat_of (by simp [hxL_len]), cond_t, ba_app, h2, Option.bind_some, ba_size, ba_size, cat_of (by simp [hxL_len]), cond_t, ba_app, ba_size, ba_size, cat_of (by simp [hxL_len]), cond_t, ba_app,
      wrap_i64 (x := pc) (by omega) (by omega), show (4 : Int) = ((4 : Nat) : Int) from rfl, h3, Option.bind_some, ba_size, ba_size, cat_of (by simp [hxL_len]), cond_t, ba_app, ba_size, ba_size, cat_of (by simp [hxL_len]), cond_t, ba_app]
    have hhead : ([98, 97, 110, 107, 115, 32] ++ hxL 1 n.toNat ++ [10, 98, 97, 110, 107, 32] ++ hxL 1 b.toNat ++ [10, 112, 99, 32] ++ hxL 4 pc.toNat ++ [10] : List UInt8) = lnsT (headT n b pc) := by simp [lnsT, headT]
    have hlen : (lnsT (headT n b pc)).length = 23 := by simp [lnsT, headT, hxL_len]
    have hg := refRom (r := r) (n := n) (b := b) (pc := pc) (l := l) hr hrb r.length 2000 0 (lnsT (headT n b pc)) (by omega) (by omega) (by omega) (by omega) (by omega)
    rw [show ((0 : Nat) : Int) = 0 from rfl, List.drop_zero] at hg
    rw [hhead, hg, Option.bind_some, refRam2 hl hok (by rw [List.length_append]; omega), Option.bind_some]
    rfl
  · rw [if_neg h, if_neg h]
    rfl
end Go.Proofs.YtbcepghanbkncaaDoor.Im
