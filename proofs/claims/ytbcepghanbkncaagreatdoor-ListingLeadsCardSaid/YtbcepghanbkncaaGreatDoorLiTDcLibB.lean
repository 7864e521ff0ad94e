/- The instruction that bytes begin with: both tellings are one plain function. -/
import Derived.Test.YtbcepghanbkncaaGreatDoorLiTDcLib
set_option linter.unusedVariables false
set_option linter.unusedSimpArgs false
namespace Go.Proofs.YtbcepghanbkncaaGreatDoor.LiT.Dc
open Go.RowKit Go.Eng
def isP (x : Int) : Bool := x == 221 || x == 253
def lastP : Int → List Int → Int
  | l, [] => l
  | l, x :: xs => if isP x then lastP x xs else l
def cntP : List Int → Nat
  | [] => 0
  | x :: xs => if isP x then cntP xs + 1 else 0
def restP : List Int → List Int
  | [] => []
  | x :: xs => if isP x then restP xs else x :: xs
def By (b : List Int) : Prop := ∀ x ∈ b, 0 ≤ x ∧ x ≤ 255
theorem cut1 (x : Int) (xs : List Int) : cutL (x :: xs) 1 ((x :: xs).length : Int) = xs := by simp [cutL]
theorem read1 {γ : Type} (t : List Int) (J : List Int × Int × Bool → Option γ) :
    cond ((t.length : Int) == 0) (J (t, 0, false)) (cond (inR 0 t.length) (cond (cutR 1 (t.length : Int) t.length) (J ((cutL t 1 (t.length : Int)), (rdD t 0), true)) none) none) = J (t.tail, t.headD 0, !t.isEmpty) := by
  cases t with
  | nil => rfl
  | cons x xs =>
    rw [cond_no (by simp; omega), cond_of (by simp [inR]), cond_of (by simp [cutR]; omega), cut1]
    rfl
theorem wrap_add {a b : Int} (h : 0 ≤ a) (h2 : a ≤ 1000000000) (h3 : -1000 ≤ b) (h4 : b ≤ 1000000000) : IntKind.wrap .i64 (a + b) = a + b := wrap_i64 (by omega) (by omega)
theorem dec_l0 (p0 : List Int) : ∀ (t : List Int) (k : Nat) (n last many : Int), t.length < k → 0 ≤ n → n + t.length ≤ 100000 → 0 ≤ many → many + t.length ≤ 100000 →
    decode_Next_77.l0 1000 p0 k t n true last many = some (lastP last t, (restP t).headD 0, max 0 (many + cntP t - 1), (restP t).tail, n + cntP t + 1, !(restP t).isEmpty)
  | [], k, n, last, many, hk, h1, h2, h3, h4 => by
    obtain ⟨k, rfl⟩ : ∃ j, k = j + 1 := ⟨k - 1, by simp at hk; omega⟩
    simp only [List.length_nil, Int.ofNat_zero] at h2 h4
    rw [decode_Next_77.l0]
    simp only [read1]
    simp only [Let]
    simp only [List.headD_nil, List.tail_nil, List.isEmpty_nil, Bool.not_true, cond_t, lastP, cntP, restP]
    rw [wrap_add h1 (by omega) (by omega) (by omega), wrap_i64 (x := many - 1) (by omega) (by omega)]
    simp
    split <;> omega
  | x :: xs, k, n, last, many, hk, h1, h2, h3, h4 => by
    obtain ⟨k, rfl⟩ : ∃ j, k = j + 1 := ⟨k - 1, by simp at hk; omega⟩
    simp only [List.length_cons] at h2 h4 hk
    rw [decode_Next_77.l0]
    simp only [read1]
    simp only [Let]
    simp only [List.headD_cons, List.tail_cons, List.isEmpty_cons, Bool.not_false, cond_t, cond_f]
    rw [wrap_add h1 (by omega) (by omega) (by omega), wrap_i64 (x := many - 1) (by omega) (by omega), wrap_add h3 (by omega) (by omega) (by omega)]
    by_cases hx : isP x = true
    · have ih := dec_l0 p0 xs k (n + 1) x (many + 1) (by omega) (by omega) (by omega) (by omega) (by omega)
      simp only [lastP, cntP, restP, hx, if_true]
      rw [ih]
      have h5 : (max 0 (many + 1 + (cntP xs : Int) - 1) = max 0 (many + ((cntP xs + 1 : Nat) : Int) - 1)) := by congr 1; omega
      have h6 : n + 1 + (cntP xs : Int) + 1 = n + ((cntP xs + 1 : Nat) : Int) + 1 := by omega
      rw [h5, h6]
      simp only [isP, Bool.or_eq_true, beq_iff_eq] at hx
      rcases hx with rfl | rfl <;> rfl
    · have hx' : isP x = false := by simpa using hx
      simp only [isP, Bool.or_eq_false_iff, beq_eq_false_iff_ne] at hx'
      simp only [lastP, cntP, restP, hx, if_false, Bool.false_eq_true]
      rw [cond_of (by simpa using hx'.1), cond_of (by simpa using hx'.2)]
      simp
      split <;> omega
theorem read2 {α β γ : Type} (c x : Bool) (a : α) (b : β) (J : α × Bool × β → γ) : cond c (J (a, x, b)) (J (a, false, b)) = J (a, c && x, b) := by cases c <;> rfl
theorem read3 {α β γ : Type} (c x : Bool) (a : α) (b : β) (J : β × α × Bool → γ) : cond c (J (b, a, x)) (J (b, a, false)) = J (b, a, c && x) := by cases c <;> rfl
def wordsOk : Bool := (List.range 256).all fun h => (List.range 256).all fun l => bits_Word_160.f 1000 (h : Int) (l : Int) == some ((l : Int) + 256 * h)
theorem words : wordsOk = true := by kernel_rfl
theorem word_at {h l : Int} (hh : 0 ≤ h ∧ h ≤ 255) (hl : 0 ≤ l ∧ l ≤ 255) : bits_Word_160.f 1000 h l = some (l + 256 * h) := by
  have h1 := List.all_eq_true.1 (List.all_eq_true.1 words h.toNat (List.mem_range.2 (by omega))) l.toNat (List.mem_range.2 (by omega))
  rw [show ((h.toNat : Nat) : Int) = h by omega, show ((l.toNat : Nat) : Int) = l by omega] at h1
  exact eq_of_beq h1
def sz (p c : Int) : Int := (charabancref08_Size_84.f 1000 p c).getD 0
def nr (p c : Int) : Bool := (charabancref08_Near_83.f 1000 p c).getD false
theorem sz_at {p c : Int} (hc : 0 ≤ c ∧ c ≤ 255) : decode_Size_124.f 1000 p c = some (sz p c) ∧ charabancref08_Size_84.f 1000 p c = some (sz p c) ∧ 0 ≤ sz p c ∧ sz p c ≤ 2 := by
  obtain ⟨s, n, h1, h2, h3, h4, h5, h6, _⟩ := code_at (p := p) hc
  have : sz p c = s := by simp [sz, h2]
  rw [this]
  exact ⟨h1, h2, h5, h6⟩
theorem nr_at {p c : Int} (hc : 0 ≤ c ∧ c ≤ 255) : decode_Near_122.f 1000 p c = some (nr p c) ∧ charabancref08_Near_83.f 1000 p c = some (nr p c) := by
  obtain ⟨s, n, h1, h2, h3, h4, h5, h6, _⟩ := code_at (p := p) hc
  have : nr p c = n := by simp [nr, h4]
  rw [this]
  exact ⟨h3, h4⟩
def nearsOk : Bool := (List.range 256).all fun c => nr 3 c == nr 4 c
theorem nears : nearsOk = true := by kernel_rfl
theorem nr34 {c : Int} (hc : 0 ≤ c ∧ c ≤ 255) : nr 4 c = nr 3 c := by
  have h1 := List.all_eq_true.1 nears c.toNat (List.mem_range.2 (by omega))
  rw [show ((c.toNat : Nat) : Int) = c by omega] at h1
  exact (eq_of_beq h1).symm
abbrev Res : Type := Int × Int × Int × Int × Int × Int × Bool
def immT (s : Int) (t : List Int) : Int := if s = 0 then 0 else if s = 1 then t.headD 0 else t.headD 0 + 256 * t.tail.headD 0
def fin (p c d n skip : Int) (t : List Int) (fl : Bool) : Res := if (fl && decide (sz p c ≤ t.length)) = true then (p, c, d, immT (sz p c) t, n + sz p c, skip, true) else (0, 0, 0, 0, 0, 0, false)
theorem By.tail {b : List Int} (h : By b) : By b.tail := fun x hx => h x (List.mem_of_mem_tail hx)
theorem By.head {b : List Int} (h : By b) : 0 ≤ b.headD 0 ∧ b.headD 0 ≤ 255 := by
  cases b with
  | nil => simp
  | cons x xs => exact h x List.mem_cons_self
theorem wrap_u16 {x : Int} (h : 0 ≤ x ∧ x ≤ 65535) : IntKind.wrap .u16 x = x := by rw [IntKind.wrap_u16]; omega
theorem dec_tail {p c d n skip : Int} {t : List Int} {fl : Bool} (hc : 0 ≤ c ∧ c ≤ 255) (ht : By t) (hn : 0 ≤ n ∧ n ≤ 100000) :
    ((decode_Size_124.f 1000 p c).bind fun s => cond (s == 0) (cond (!fl) (some ((0, 0, 0, 0, 0, 0, false) : Res)) (some (p, c, d, 0, n, skip, true)))
      (cond (s == 1) (cond (!(fl && !t.isEmpty)) (some (0, 0, 0, 0, 0, 0, false)) (some (p, c, d, IntKind.wrap .u16 (t.headD 0), n + 1, skip, true)))
        ((bits_Word_160.f 1000 (t.tail.headD 0) (t.headD 0)).bind fun w => cond (!(fl && !t.isEmpty && !t.tail.isEmpty)) (some (0, 0, 0, 0, 0, 0, false)) (some (p, c, d, w, n + 1 + 1, skip, true))))) = some (fin p c d n skip t fl) := by
  obtain ⟨h1, h2, h3, h4⟩ := sz_at (p := p) hc
  have hh := ht.head
  have hh2 := ht.tail.head
  rw [h1, Option.bind_some, word_at hh2 hh, wrap_u16 (by omega)]
  unfold fin immT
  have : sz p c = 0 ∨ sz p c = 1 ∨ sz p c = 2 := by omega
  rcases this with h | h | h <;> rw [h]
  · cases fl <;> simp
  · cases fl <;> cases t <;> simp
    omega
  · have e2 : n + 1 + 1 = n + 2 := by omega
    rw [e2]
    rcases t with _ | ⟨x, _ | ⟨y, t⟩⟩ <;> cases fl <;> simp <;> omega
def Nx (b : List Int) : Res :=
  if (restP b).headD 0 = 237 then fin 2 ((restP b).tail.headD 0) 0 ((cntP b : Int) + 2) (if lastP 0 b = 0 then max 0 ((cntP b : Int) - 1) else max 0 ((cntP b : Int) - 1) + 1) (restP b).tail.tail (!(restP b).isEmpty && !(restP b).tail.isEmpty)
  else if (restP b).headD 0 = 203 then
    (if lastP 0 b = 0 then fin 1 ((restP b).tail.headD 0) 0 ((cntP b : Int) + 2) (max 0 ((cntP b : Int) - 1)) (restP b).tail.tail (!(restP b).isEmpty && !(restP b).tail.isEmpty)
     else fin (if lastP 0 b = 253 then 6 else 5) ((restP b).tail.tail.headD 0) ((restP b).tail.headD 0) ((cntP b : Int) + 3) (max 0 ((cntP b : Int) - 1)) (restP b).tail.tail.tail (!(restP b).isEmpty && !(restP b).tail.isEmpty && !(restP b).tail.tail.isEmpty))
  else if lastP 0 b = 0 then fin 0 ((restP b).headD 0) 0 ((cntP b : Int) + 1) (max 0 ((cntP b : Int) - 1)) (restP b).tail (!(restP b).isEmpty)
  else if nr 3 ((restP b).headD 0) = true then fin (if lastP 0 b = 253 then 4 else 3) ((restP b).headD 0) ((restP b).tail.headD 0) ((cntP b : Int) + 2) (max 0 ((cntP b : Int) - 1)) (restP b).tail.tail (!(restP b).isEmpty && !(restP b).tail.isEmpty)
  else fin (if lastP 0 b = 253 then 4 else 3) ((restP b).headD 0) 0 ((cntP b : Int) + 1) (max 0 ((cntP b : Int) - 1)) (restP b).tail (!(restP b).isEmpty)
theorem rest_eq : ∀ b : List Int, restP b = b.drop (cntP b)
  | [] => rfl
  | x :: xs => by
    simp only [restP, cntP]
    split
    · rw [rest_eq xs]; rfl
    · rfl
theorem cnt_le : ∀ b : List Int, cntP b ≤ b.length
  | [] => Nat.le_refl _
  | x :: xs => by
    simp only [cntP]
    split
    · have := cnt_le xs; simp; omega
    · simp
theorem By.drop {b : List Int} (h : By b) (n : Nat) : By (b.drop n) := fun x hx => h x (List.mem_of_mem_drop hx)
theorem last_in : ∀ (b : List Int) (l : Int), (lastP l b = l ∧ cntP b = 0) ∨ (0 < cntP b ∧ (lastP l b = 221 ∨ lastP l b = 253))
  | [], l => .inl ⟨rfl, rfl⟩
  | x :: xs, l => by
    simp only [lastP, cntP]
    by_cases hx : isP x = true
    · right
      simp only [hx, if_true]
      refine ⟨by omega, ?_⟩
      simp only [isP, Bool.or_eq_true, beq_iff_eq] at hx
      rcases last_in xs x with ⟨h, _⟩ | ⟨_, h⟩
      · rw [h]; exact hx
      · exact h
    · left; simp [hx]
end Go.Proofs.YtbcepghanbkncaaGreatDoor.LiT.Dc
