/- Registers: both texts are one. -/
import Derived.Test.YtajnhlkkbhobiaaDoorRegLibS
set_option linter.unusedVariables false
set_option linter.unusedSimpArgs false
set_option maxHeartbeats 4000000
namespace Go.Proofs.YtajnhlkkbhobiaaDoor.Reg
open Go.RowKit Go.Eng
theorem ShowR_eq (r : R20) : ShowR r = (S0 r 1000 [] 0).bind (fun t64 => (text_Hex_50.f 1000 (IntKind.wrap .i64 r.2.2.2.2.2.2.2.2.2.2.2.2.2.1) 2).bind fun t72 => cond (mayCat 2 t72.size) ((text_Hex_50.f 1000 (IntKind.wrap .i64 r.2.2.2.2.2.2.2.2.2.2.2.2.2.2.1) 2).bind fun t75 => cond (mayCat 2 t75.size) ((strconv_Itoa_51.f 1000 r.2.2.2.2.2.2.2.2.2.2.2.2.2.2.2.2.2.2.2).bind fun t78 => cond (mayCat 2 t78.size)
    (cond (mayBe (t64.length + 3) 16) ((S1 r 1000 (t64 ++ [((⟨#[105, 61]⟩ : ByteArray) ++ t72), ((⟨#[114, 61]⟩ : ByteArray) ++ t75), ((⟨#[105, 109]⟩ : ByteArray) ++ t78)]) 0).bind (fun t147 => (strings_Join_52.f 1000 t147 (⟨#[32]⟩ : ByteArray)).bind fun t154 => some t154)) none) none) none) none) := rfl
def QG (r : R20) (s : ByteArray) : Option ByteArray := cond r.2.2.2.2.2.2.2.2.2.2.2.2.2.2.2.2.2.1 (cond (mayCat s.size 5) (some (s ++ (⟨#[32, 104, 97, 108, 116]⟩ : ByteArray))) none) (some s)
def QF (r : R20) (s : ByteArray) : Option ByteArray := cond r.2.2.2.2.2.2.2.2.2.2.2.2.2.2.2.2.1 (cond (mayCat s.size 5) (QG r (s ++ (⟨#[32, 105, 102, 102, 50]⟩ : ByteArray))) none) (QG r s)
theorem ShowQ_eq (r : R20) : ShowQ r = (Q0 r 1000 (ba []) 0).bind (fun t41 => cond (mayCat t41.size 2) ((charabancref09_Hex_53.f 1000 (IntKind.wrap .i64 r.2.2.2.2.2.2.2.2.2.2.2.2.2.1) 2).bind fun t50 => cond (mayCat (t41 ++ (⟨#[105, 61]⟩ : ByteArray)).size t50.size) (cond (mayCat ((t41 ++ (⟨#[105, 61]⟩ : ByteArray)) ++ t50).size 3) ((charabancref09_Hex_53.f 1000 (IntKind.wrap .i64 r.2.2.2.2.2.2.2.2.2.2.2.2.2.2.1) 2).bind fun t54 => cond (mayCat (((t41 ++ (⟨#[105, 61]⟩ : ByteArray)) ++ t50) ++ (⟨#[32, 114, 61]⟩ : ByteArray)).size t54.size) (cond (mayCat ((((t41 ++ (⟨#[105, 61]⟩ : ByteArray)) ++ t50) ++ (⟨#[32, 114, 61]⟩ : ByteArray)) ++ t54).size 3) ((charabancref11_Number_54.f 1000 r.2.2.2.2.2.2.2.2.2.2.2.2.2.2.2.2.2.2.2).bind fun t58 => cond (mayCat (((((t41 ++ (⟨#[105, 61]⟩ : ByteArray)) ++ t50) ++ (⟨#[32, 114, 61]⟩ : ByteArray)) ++ t54) ++ (⟨#[32, 105, 109]⟩ : ByteArray)).size t58.size)
    (cond r.2.2.2.2.2.2.2.2.2.2.2.2.2.2.2.1 (cond (mayCat ((((((t41 ++ (⟨#[105, 61]⟩ : ByteArray)) ++ t50) ++ (⟨#[32, 114, 61]⟩ : ByteArray)) ++ t54) ++ (⟨#[32, 105, 109]⟩ : ByteArray)) ++ t58).size 5) (QF r (((((((t41 ++ (⟨#[105, 61]⟩ : ByteArray)) ++ t50) ++ (⟨#[32, 114, 61]⟩ : ByteArray)) ++ t54) ++ (⟨#[32, 105, 109]⟩ : ByteArray)) ++ t58) ++ (⟨#[32, 105, 102, 102, 49]⟩ : ByteArray))) none) (QF r ((((((t41 ++ (⟨#[105, 61]⟩ : ByteArray)) ++ t50) ++ (⟨#[32, 114, 61]⟩ : ByteArray)) ++ t54) ++ (⟨#[32, 105, 109]⟩ : ByteArray)) ++ t58))) none) none) none) none) none) none) := rfl
/-- The flags' names. -/
def flL (r : R20) : List (List UInt8) := (if r.2.2.2.2.2.2.2.2.2.2.2.2.2.2.2.1 = true then [[105, 102, 102, 49]] else []) ++ (if r.2.2.2.2.2.2.2.2.2.2.2.2.2.2.2.2.1 = true then [[105, 102, 102, 50]] else []) ++ (if r.2.2.2.2.2.2.2.2.2.2.2.2.2.2.2.2.2.1 = true then [[104, 97, 108, 116]] else [])
theorem S1_all (r : R20) (k : Nat) (l : List ByteArray) (hl : l.length ≤ 100) : S1 r (k + 4) l ((0 : Nat) : Int) = some (l ++ (flL r).map ba) := by
  have st : ∀ (k i : Nat) (l : List ByteArray), i < 3 → l.length ≤ 103 → S1 r (k + 1) l (i : Int) = S1 r k (l ++ (if (rdD (FL r) (i : Int)).1 = true then [(rdD (FL r) (i : Int)).2] else [])) ((i + 1 : Nat) : Int) := by
    intro k i l hi hl
    rw [S1_step, decide_eq_true (by omega), cond_t, cond_of (inR_nat hi), wrap_nat (by omega), cond_of (mayBe_of (by omega) (by omega))]
    cases (rdD (FL r) (i : Int)).1
    · simp
    · rfl
  have hle : ∀ (c : Bool) (x : ByteArray), (if c = true then [x] else []).length ≤ 1 := fun c x => by cases c <;> simp
  have e1 := hle (rdD (FL r) ((0 : Nat) : Int)).1 (rdD (FL r) ((0 : Nat) : Int)).2
  have e2 := hle (rdD (FL r) ((1 : Nat) : Int)).1 (rdD (FL r) ((1 : Nat) : Int)).2
  rw [st (k + 3) 0 l (by omega) (by omega), st (k + 2) 1 _ (by omega) (by simp only [List.length_append]; omega), st (k + 1) 2 _ (by omega) (by simp only [List.length_append]; omega)]
  rw [S1_step, show decide ((((2 + 1 : Nat) : Int)) < 3) = false from rfl, cond_f]
  unfold flL
  have g1 : (rdD (FL r) ((0 : Nat) : Int)) = (r.2.2.2.2.2.2.2.2.2.2.2.2.2.2.2.1, ba [105, 102, 102, 49]) := rfl
  have g2 : (rdD (FL r) ((1 : Nat) : Int)) = (r.2.2.2.2.2.2.2.2.2.2.2.2.2.2.2.2.1, ba [105, 102, 102, 50]) := rfl
  have g3 : (rdD (FL r) ((2 : Nat) : Int)) = (r.2.2.2.2.2.2.2.2.2.2.2.2.2.2.2.2.2.1, ba [104, 97, 108, 116]) := rfl
  rw [g1, g2, g3]
  cases r.2.2.2.2.2.2.2.2.2.2.2.2.2.2.2.1 <;> cases r.2.2.2.2.2.2.2.2.2.2.2.2.2.2.2.2.1 <;> cases r.2.2.2.2.2.2.2.2.2.2.2.2.2.2.2.2.2.1 <;> simp
theorem join_ba (x : List UInt8) (xs : List (List UInt8)) (hx : (x :: xs).length ≤ 100) (hl : ∀ y ∈ x :: xs, y.length ≤ 100) : strings_Join_52.f 1000 ((x :: xs).map ba) (⟨#[32]⟩ : ByteArray) = some (ba (x ++ xs.flatMap fun y => 32 :: y)) := by
  have hm : ((x :: xs).map ba).map (·.data.toList) = x :: xs := by
    rw [List.map_map, show ((fun (z : ByteArray) => z.data.toList) ∘ ba) = id from rfl, List.map_id]
  have hj : ∀ (x : List UInt8) (xs : List (List UInt8)), Lib.join (x :: xs) [32] = x ++ xs.flatMap fun y => 32 :: y := by
    intro x xs
    induction xs generalizing x with
    | nil => simp [Lib.join_one]
    | cons y ys ih =>
      have : Lib.join (x :: y :: ys) [32] = x ++ ([32] ++ Lib.join (y :: ys) [32]) := by simp [Lib.join, List.intercalate]
      rw [this, ih]
      simp
  have hlen : ∀ (xs : List (List UInt8)) (n : Nat), xs.length ≤ n → (∀ y ∈ xs, y.length ≤ 100) → (xs.flatMap fun y => 32 :: y).length ≤ n * 101 := by
    intro xs
    induction xs with
    | nil => intro n _ _; simp
    | cons y ys ih =>
      intro n h1 h2
      have := ih (n - 1) (by simp at h1; omega) (fun z hz => h2 z (List.mem_cons_of_mem _ hz))
      have h3 := h2 y List.mem_cons_self
      simp only [List.length_cons] at h1
      simp only [List.flatMap_cons, List.length_append, List.length_cons]
      omega
  unfold strings_Join_52.f
  have hb := hlen xs 100 (by simp at hx; omega) (fun y hy => hl y (List.mem_cons_of_mem _ hy))
  have hx2 := hl x List.mem_cons_self
  have hd : (⟨#[32]⟩ : ByteArray).data.toList = [32] := rfl
  rw [hm, hd, hj, cond_of]
  · rfl
  · unfold joinR
    rw [hm, hd, hj]
    simp only [Bool.and_eq_true]
    exact ⟨Nat.ble_eq_true_of_le (by rw [List.length_map]; omega), Nat.ble_eq_true_of_le (by rw [List.length_append]; omega)⟩
def allL (r : R20) : List (List UInt8) := [ent r 1, ent r 2, ent r 3, ent r 4, ent r 5, ent r 6, ent r 7, [105, 61] ++ hexT (IntKind.wrap .i64 r.2.2.2.2.2.2.2.2.2.2.2.2.2.1) 2, [114, 61] ++ hexT (IntKind.wrap .i64 r.2.2.2.2.2.2.2.2.2.2.2.2.2.2.1) 2, [105, 109] ++ Lib.itoa r.2.2.2.2.2.2.2.2.2.2.2.2.2.2.2.2.2.2.2] ++ flL r
theorem showR_at {r : R20} (hm : i64 r.2.2.2.2.2.2.2.2.2.2.2.2.2.2.2.2.2.2.2) : ShowR r = some (ba (ent r 0 ++ (allL r).flatMap fun y => 32 :: y)) := by
  have hl := ent_len r
  have e1 := hexT_len (IntKind.wrap .i64 r.2.2.2.2.2.2.2.2.2.2.2.2.2.1) 2
  have e2 := hexT_len (IntKind.wrap .i64 r.2.2.2.2.2.2.2.2.2.2.2.2.2.2.1) 2
  have e3 := itoa_len hm
  have s0 := S0_all r 991
  have hfl : (flL r).length ≤ 3 ∧ ∀ y ∈ flL r, y.length ≤ 4 := by
    unfold flL
    cases r.2.2.2.2.2.2.2.2.2.2.2.2.2.2.2.1 <;> cases r.2.2.2.2.2.2.2.2.2.2.2.2.2.2.2.2.1 <;> cases r.2.2.2.2.2.2.2.2.2.2.2.2.2.2.2.2.2.1 <;> simp
  rw [ShowR_eq]
  erw [s0]
  simp only [Option.bind_some]
  rw [goHex (wrap_in _), Option.bind_some, ba_size, cond_of (cat_of (by omega)), goHex (wrap_in _), Option.bind_some, ba_size, cond_of (cat_of (by omega)), goItoa hm, Option.bind_some, ba_size, cond_of (cat_of (by omega)), cond_of (by rfl)]
  rw [show (⟨#[105, 61]⟩ : ByteArray) = ba [105, 61] from rfl, show (⟨#[114, 61]⟩ : ByteArray) = ba [114, 61] from rfl, show (⟨#[105, 109]⟩ : ByteArray) = ba [105, 109] from rfl, ba_app, ba_app, ba_app]
  have s1 := S1_all r 996 ([ba (ent r 0), ba (ent r 1), ba (ent r 2), ba (ent r 3), ba (ent r 4), ba (ent r 5), ba (ent r 6), ba (ent r 7)] ++ [ba ([105, 61] ++ hexT (IntKind.wrap .i64 r.2.2.2.2.2.2.2.2.2.2.2.2.2.1) 2), ba ([114, 61] ++ hexT (IntKind.wrap .i64 r.2.2.2.2.2.2.2.2.2.2.2.2.2.2.1) 2), ba ([105, 109] ++ Lib.itoa r.2.2.2.2.2.2.2.2.2.2.2.2.2.2.2.2.2.2.2)]) (by simp)
  erw [s1]
  rw [Option.bind_some]
  have hj := join_ba (ent r 0) (allL r) (by simp only [allL, List.length_append, List.length_cons, List.length_nil]; omega) (by
    intro y hy
    have h0 := hl 0 (by omega); have h1 := hl 1 (by omega); have h2 := hl 2 (by omega); have h3 := hl 3 (by omega); have h4 := hl 4 (by omega); have h5 := hl 5 (by omega); have h6 := hl 6 (by omega); have h7 := hl 7 (by omega)
    rcases List.mem_cons.1 hy with rfl | hy
    · omega
    · unfold allL at hy
      rcases List.mem_append.1 hy with hy | hy
      · simp only [List.mem_cons, List.not_mem_nil, or_false] at hy
        rcases hy with rfl | rfl | rfl | rfl | rfl | rfl | rfl | rfl | rfl | rfl <;> (try simp only [List.length_append, List.length_cons, List.length_nil]) <;> omega
      · have := hfl.2 y hy
        omega)
  have hmap : [ba (ent r 0), ba (ent r 1), ba (ent r 2), ba (ent r 3), ba (ent r 4), ba (ent r 5), ba (ent r 6), ba (ent r 7)] ++ [ba ([105, 61] ++ hexT (IntKind.wrap .i64 r.2.2.2.2.2.2.2.2.2.2.2.2.2.1) 2), ba ([114, 61] ++ hexT (IntKind.wrap .i64 r.2.2.2.2.2.2.2.2.2.2.2.2.2.2.1) 2), ba ([105, 109] ++ Lib.itoa r.2.2.2.2.2.2.2.2.2.2.2.2.2.2.2.2.2.2.2)] ++ (flL r).map ba = (ent r 0 :: allL r).map ba := by
    unfold allL
    rw [List.map_cons, List.map_append]
    rfl
  rw [hmap, hj]
  rfl
theorem QG_at (r : R20) (s : List UInt8) (h : s.length ≤ 10000) : QG r (ba s) = some (ba (s ++ (if r.2.2.2.2.2.2.2.2.2.2.2.2.2.2.2.2.2.1 = true then 32 :: [104, 97, 108, 116] else []))) := by
  unfold QG
  rw [ba_size, cond_of (cat_of (by omega)), show ((⟨#[32, 104, 97, 108, 116]⟩ : ByteArray)) = ba [32, 104, 97, 108, 116] from rfl, ba_app]
  cases r.2.2.2.2.2.2.2.2.2.2.2.2.2.2.2.2.2.1
  · simp
  · rfl
theorem QF_at (r : R20) (s : List UInt8) (h : s.length ≤ 9000) : QF r (ba s) = some (ba (s ++ (if r.2.2.2.2.2.2.2.2.2.2.2.2.2.2.2.2.1 = true then 32 :: [105, 102, 102, 50] else []) ++ (if r.2.2.2.2.2.2.2.2.2.2.2.2.2.2.2.2.2.1 = true then 32 :: [104, 97, 108, 116] else []))) := by
  unfold QF
  rw [ba_size, cond_of (cat_of (by omega)), show ((⟨#[32, 105, 102, 102, 50]⟩ : ByteArray)) = ba [32, 105, 102, 102, 50] from rfl, ba_app, QG_at r s (by omega), QG_at r _ (by simp only [List.length_append, List.length_cons, List.length_nil]; omega)]
  cases r.2.2.2.2.2.2.2.2.2.2.2.2.2.2.2.2.1
  · simp
  · rfl
theorem showQ_at {r : R20} (hm : i64 r.2.2.2.2.2.2.2.2.2.2.2.2.2.2.2.2.2.2.2) : ShowQ r = some (ba (ent r 0 ++ (allL r).flatMap fun y => 32 :: y)) := by
  have hl := ent_len r
  have h0 := hl 0 (by omega); have h1 := hl 1 (by omega); have h2 := hl 2 (by omega); have h3 := hl 3 (by omega); have h4 := hl 4 (by omega); have h5 := hl 5 (by omega); have h6 := hl 6 (by omega); have h7 := hl 7 (by omega)
  have e1 := hexT_len (IntKind.wrap .i64 r.2.2.2.2.2.2.2.2.2.2.2.2.2.1) 2
  have e2 := hexT_len (IntKind.wrap .i64 r.2.2.2.2.2.2.2.2.2.2.2.2.2.2.1) 2
  have e3 := itoa_len hm
  have q0 := Q0_all r 991
  rw [ShowQ_eq]
  erw [q0]
  generalize hZ : ([] ++ ent r 0 ++ [32] ++ ent r 1 ++ [32] ++ ent r 2 ++ [32] ++ ent r 3 ++ [32] ++ ent r 4 ++ [32] ++ ent r 5 ++ [32] ++ ent r 6 ++ [32] ++ ent r 7 ++ [32]) = Z
  have hz : Z.length ≤ 500 := by rw [← hZ]; simp only [List.length_append, List.length_cons, List.length_nil]; omega
  rw [Option.bind_some, ba_size, cond_of (cat_of (by omega)), refHex (wrap_in _), Option.bind_some]
  rw [show (⟨#[105, 61]⟩ : ByteArray) = ba [105, 61] from rfl, show (⟨#[32, 114, 61]⟩ : ByteArray) = ba [32, 114, 61] from rfl, show (⟨#[32, 105, 109]⟩ : ByteArray) = ba [32, 105, 109] from rfl, show ((⟨#[32, 105, 102, 102, 49]⟩ : ByteArray)) = ba [32, 105, 102, 102, 49] from rfl, ba_app, ba_app, ba_size, ba_size, ba_size]
  rw [cond_of (cat_of (by simp only [List.length_append, List.length_cons, List.length_nil]; omega)), cond_of (cat_of (by simp only [List.length_append, List.length_cons, List.length_nil]; omega)), refHex (wrap_in _), Option.bind_some, ba_app, ba_app, ba_size, ba_size, ba_size, cond_of (cat_of (by simp only [List.length_append, List.length_cons, List.length_nil]; omega)), cond_of (cat_of (by simp only [List.length_append, List.length_cons, List.length_nil]; omega)), refNumber hm, Option.bind_some, ba_app, ba_app, ba_app, ba_size, ba_size, ba_size]
  rw [cond_of (cat_of (by simp only [List.length_append, List.length_cons, List.length_nil]; omega)), cond_of (cat_of (by simp only [List.length_append, List.length_cons, List.length_nil]; omega)), QF_at r _ (by simp only [List.length_append, List.length_cons, List.length_nil]; omega), QF_at r _ (by simp only [List.length_append, List.length_cons, List.length_nil]; omega), ← hZ]
  unfold allL flL
  cases r.2.2.2.2.2.2.2.2.2.2.2.2.2.2.2.1 <;> cases r.2.2.2.2.2.2.2.2.2.2.2.2.2.2.2.2.1 <;> cases r.2.2.2.2.2.2.2.2.2.2.2.2.2.2.2.2.2.1 <;> simp
end Go.Proofs.YtajnhlkkbhobiaaDoor.Reg
