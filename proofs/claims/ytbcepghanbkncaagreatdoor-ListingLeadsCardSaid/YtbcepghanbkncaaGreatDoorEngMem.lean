/- The engine's memory: what is never turned again (read by any number of values), and what is the call's own. -/
import Derived.Test.YtbcepghanbkncaaGreatDoorEngCore
import Derived.Deep.MidRow
set_option linter.unusedVariables false
set_option linter.unusedSimpArgs false
namespace Go.Eng
open Go.RowKit

structure Rp (α : Type) where
  sz : Nat
  K : World → (Nat → Prop) → α → List Value → Prop
  len : ∀ {w : World} {M : Nat → Prop} {x : α} {cs : List Value}, K w M x cs → cs.length = sz
  one : ∀ {w : World} {M : Nat → Prop} {x : α} {cs : List Value}, K w M x cs → ∀ u ∈ cs, u.oneCell' = true
  keep : ∀ {w w' : World} {M M' : Nat → Prop} {x : α} {cs : List Value}, w.heap.size ≤ w'.heap.size → (∀ b, b < w.heap.size → ¬ M b → w'.heap[b]? = w.heap[b]?) →
    (∀ b, b < w.heap.size → M' b → M b) → K w M x cs → K w' M' x cs

theorem alloc_old (w : World) (o : Obj) {b : Nat} (h : b < w.heap.size) : (w.alloc o).heap[b]? = w.heap[b]? := by
  show (w.heap.push o)[b]? = _
  rw [Array.getElem?_push, if_neg (by omega)]
theorem alloc_new (w : World) (o : Obj) : (w.alloc o).heap[w.heap.size]? = some o := by
  show (w.heap.push o)[w.heap.size]? = _
  rw [Array.getElem?_push, if_pos rfl]
theorem cell_lt {w : World} {b o : Nat} {u : Value} (h : w.cell? ⟨b, o, none⟩ = some u) : b < w.heap.size := World.block_lt_of_cell? w _ h
theorem cell_same {w w' : World} {b o : Nat} (h : w'.heap[b]? = w.heap[b]?) : w'.cell? ⟨b, o, none⟩ = w.cell? ⟨b, o, none⟩ := World.cell?_of_block (w := w) h

def Sl {α : Type} (d : Rp α) (w : World) (M : Nat → Prop) (v : Value) (xs : List α) : Prop :=
  ∃ A c, v = .slice A xs.length c ∧ xs.length ≤ c ∧ c ≤ maxLen ∧ (A = none → xs = [] ∧ c = 0) ∧
    (0 < xs.length → ∃ b o, A = some ⟨b, o, none⟩ ∧ b < w.heap.size ∧ ¬ M b ∧
      ∀ j x, xs[j]? = some x → ∃ cs, d.K w M x cs ∧ ∀ i u, cs[i]? = some u → w.cell? ⟨b, o + j * d.sz + i, none⟩ = some u)
theorem Sl.keep {α : Type} {d : Rp α} {w w' : World} {M M' : Nat → Prop} {v : Value} {xs : List α} (h1 : w.heap.size ≤ w'.heap.size) (h2 : ∀ b, b < w.heap.size → ¬ M b → w'.heap[b]? = w.heap[b]?)
    (h3 : ∀ b, b < w.heap.size → M' b → M b) (h : Sl d w M v xs) : Sl d w' M' v xs := by
  obtain ⟨A, c, hv, hl, hc, hn, h⟩ := h
  refine ⟨A, c, hv, hl, hc, hn, fun hp => ?_⟩
  obtain ⟨b, o, hA, hb, hM, h⟩ := h hp
  refine ⟨b, o, hA, Nat.lt_of_lt_of_le hb h1, fun hm => hM (h3 b hb hm), fun j x hx => ?_⟩
  obtain ⟨cs, hk, hcs⟩ := h j x hx
  exact ⟨cs, d.keep h1 h2 h3 hk, fun i u hu => (cell_same (h2 b hb hM)).trans (hcs i u hu)⟩
theorem Sl.form {α : Type} {d : Rp α} {w : World} {M : Nat → Prop} {v : Value} {xs : List α} (h : Sl d w M v xs) : ∃ A c, v = .slice A xs.length c := let ⟨A, c, hv, _⟩ := h; ⟨A, c, hv⟩
theorem Sl.nil {α : Type} (d : Rp α) (w : World) (M : Nat → Prop) : Sl d w M (.slice none 0 0) [] := ⟨none, 0, rfl, Nat.le_refl _, by simp [maxLen], fun _ => ⟨rfl, rfl⟩, fun h => absurd h (by simp)⟩
theorem Sl.mono {α : Type} {d : Rp α} {w : World} {M M' : Nat → Prop} {v : Value} {xs : List α} (h : Sl d w M v xs) (hm : ∀ b, b < w.heap.size → M' b → M b) : Sl d w M' v xs := h.keep (Nat.le_refl _) (fun _ _ _ => rfl) hm
theorem Sl.below {α : Type} {d : Rp α} {w w' : World} {M : Nat → Prop} {v : Value} {xs : List α} (h : Sl d w M v xs) (hb : Below w.heap.size w w') : Sl d w' M v xs := h.keep hb.size (fun b hlt _ => hb.block b hlt) (fun _ _ h => h)

namespace Rp
def int (k : IntKind) : Rp Int := ⟨1, fun _ _ x cs => cs = [.int k x], fun h => by subst h; rfl, fun h u hu => by subst h; simp at hu; subst hu; rfl, fun _ _ _ h => h⟩
def bool : Rp Bool := ⟨1, fun _ _ x cs => cs = [.bool x], fun h => by subst h; rfl, fun h u hu => by subst h; simp at hu; subst hu; rfl, fun _ _ _ h => h⟩
def str : Rp ByteArray := ⟨1, fun _ _ x cs => cs = [.string x], fun h => by subst h; rfl, fun h u hu => by subst h; simp at hu; subst hu; rfl, fun _ _ _ h => h⟩
def slice {α : Type} (d : Rp α) : Rp (List α) :=
  ⟨1, fun w M xs cs => ∃ v, cs = [v] ∧ Sl d w M v xs, fun ⟨_, h, _⟩ => by subst h; rfl,
    fun ⟨v, h, hs⟩ u hu => by subst h; simp at hu; subst hu; obtain ⟨A, c, rfl⟩ := hs.form; rfl,
    fun h1 h2 h3 ⟨v, h, hs⟩ => ⟨v, h, hs.keep h1 h2 h3⟩⟩
def pair {α β : Type} (a : Rp α) (b : Rp β) : Rp (α × β) :=
  ⟨a.sz + b.sz, fun w M x cs => ∃ c1 c2, cs = c1 ++ c2 ∧ a.K w M x.1 c1 ∧ b.K w M x.2 c2,
    fun ⟨c1, c2, h, h1, h2⟩ => by subst h; rw [List.length_append, a.len h1, b.len h2],
    fun ⟨c1, c2, h, h1, h2⟩ u hu => by subst h; rcases List.mem_append.1 hu with hu | hu; exact a.one h1 u hu; exact b.one h2 u hu,
    fun k1 k2 k3 ⟨c1, c2, h, h1, h2⟩ => ⟨c1, c2, h, a.keep k1 k2 k3 h1, b.keep k1 k2 k3 h2⟩⟩
end Rp

def Cells {α : Type} (d : Rp α) (w : World) (M : Nat → Prop) : List α → List Value → Prop
  | [], cs => cs = []
  | x :: xs, cs => ∃ c1 c2, cs = c1 ++ c2 ∧ d.K w M x c1 ∧ Cells d w M xs c2
theorem Cells.keep {α : Type} {d : Rp α} {w w' : World} {M M' : Nat → Prop} (h1 : w.heap.size ≤ w'.heap.size) (h2 : ∀ b, b < w.heap.size → ¬ M b → w'.heap[b]? = w.heap[b]?)
    (h3 : ∀ b, b < w.heap.size → M' b → M b) : ∀ {xs : List α} {cs : List Value}, Cells d w M xs cs → Cells d w' M' xs cs
  | [], _, h => h
  | _ :: _, _, ⟨c1, c2, h, hk, hr⟩ => ⟨c1, c2, h, d.keep h1 h2 h3 hk, Cells.keep h1 h2 h3 hr⟩
theorem Cells.len {α : Type} {d : Rp α} {w : World} {M : Nat → Prop} : ∀ {xs : List α} {cs : List Value}, Cells d w M xs cs → cs.length = xs.length * d.sz
  | [], _, h => by rw [show _ = [] from h]; simp
  | x :: xs, _, ⟨c1, c2, h, hk, hr⟩ => by rw [h, List.length_append, d.len hk, Cells.len hr, List.length_cons, Nat.add_mul]; omega
theorem Cells.one {α : Type} {d : Rp α} {w : World} {M : Nat → Prop} : ∀ {xs : List α} {cs : List Value}, Cells d w M xs cs → ∀ u ∈ cs, u.oneCell' = true
  | [], _, h, u, hu => by rw [show _ = [] from h] at hu; cases hu
  | x :: xs, _, ⟨c1, c2, h, hk, hr⟩, u, hu => by
    subst h
    rcases List.mem_append.1 hu with hu | hu
    · exact d.one hk u hu
    · exact Cells.one hr u hu
theorem Cells.append {α : Type} {d : Rp α} {w : World} {M : Nat → Prop} : ∀ {xs ys : List α} {cs ds : List Value}, Cells d w M xs cs → Cells d w M ys ds → Cells d w M (xs ++ ys) (cs ++ ds)
  | [], ys, cs, ds, h, h' => by rw [show cs = [] from h]; exact h'
  | x :: xs, ys, _, ds, ⟨c1, c2, h, hk, hr⟩, h' => ⟨c1, c2 ++ ds, by rw [h, List.append_assoc], hk, Cells.append hr h'⟩
theorem Cells.get {α : Type} {d : Rp α} {w : World} {M : Nat → Prop} : ∀ {xs : List α} {cs : List Value}, Cells d w M xs cs → ∀ (j : Nat) (x : α), xs[j]? = some x →
    ∃ c, d.K w M x c ∧ ∀ i u, c[i]? = some u → cs[j * d.sz + i]? = some u
  | [], _, _, j, x, hx => by simp at hx
  | y :: xs, _, ⟨c1, c2, h, hk, hr⟩, 0, x, hx => by
    simp at hx
    subst hx
    exact ⟨c1, hk, fun i u hu => by subst h; rw [Nat.zero_mul, Nat.zero_add]; exact get_app_left hu⟩
  | y :: xs, _, ⟨c1, c2, h, hk, hr⟩, j + 1, x, hx => by
    simp at hx
    obtain ⟨c, hc, hg⟩ := Cells.get hr j x hx
    refine ⟨c, hc, fun i u hu => ?_⟩
    subst h
    have h1 : (j + 1) * d.sz + i = c1.length + (j * d.sz + i) := by rw [d.len hk, Nat.add_mul]; omega
    rw [h1, get_app_right]
    exact hg i u hu
theorem Cells.set {α : Type} {d : Rp α} {w : World} {M : Nat → Prop} : ∀ {xs : List α} {cs : List Value}, Cells d w M xs cs → ∀ (j : Nat) (x : α) (c : List Value), j < xs.length → d.K w M x c →
    Cells d w M (xs.set j x) (cs.take (j * d.sz) ++ c ++ cs.drop (j * d.sz + c.length))
  | [], _, _, j, x, c, hj, _ => by simp at hj
  | y :: xs, _, ⟨c1, c2, h, hk, hr⟩, 0, x, c, hj, hc => by
    subst h
    refine ⟨c, c2, ?_, hc, hr⟩
    simp only [Nat.zero_mul, List.take_zero, List.nil_append, Nat.zero_add]
    rw [d.len hc, ← d.len hk, List.drop_left]
  | y :: xs, _, ⟨c1, c2, h, hk, hr⟩, j + 1, x, c, hj, hc => by
    subst h
    refine ⟨c1, _, ?_, hk, Cells.set hr j x c (by simpa using hj) hc⟩
    have h1 : (j + 1) * d.sz = c1.length + j * d.sz := by rw [d.len hk, Nat.add_mul]; omega
    rw [h1, List.take_length_add_append, show c1.length + j * d.sz + c.length = c1.length + (j * d.sz + c.length) by omega, List.drop_length_add_append]
    simp [List.append_assoc]

structure Chunk where
  mine : List Nat
  ok : World → (Nat → Prop) → Prop
  keep : ∀ {w w' : World} {M M' : Nat → Prop}, w.heap.size ≤ w'.heap.size → (∀ b, b < w.heap.size → (b ∈ mine ∨ ¬ M b) → w'.heap[b]? = w.heap[b]?) →
    (∀ b, b < w.heap.size → M' b → M b) → ok w M → ok w' M'

def sl {α : Type} (d : Rp α) (v : Value) (xs : List α) : Chunk := ⟨[], fun w M => Sl d w M v xs, fun h1 h2 h3 h => h.keep h1 (fun b hb hm => h2 b hb (.inr hm)) h3⟩
def cel (b o : Nat) (cs : List Value) : Chunk :=
  ⟨[], fun w M => b < w.heap.size ∧ ¬ M b ∧ ∀ i u, cs[i]? = some u → w.cell? ⟨b, o + i, none⟩ = some u,
    fun h1 h2 h3 ⟨hb, hm, h⟩ => ⟨Nat.lt_of_lt_of_le hb h1, fun h' => hm (h3 b hb h'), fun i u hu => (cell_same (h2 b hb (.inr hm))).trans (h i u hu)⟩⟩
def box (b : Nat) (t : TypeId) (cs : List Value) : Chunk :=
  ⟨[b], fun w _ => w.heap[b]? = some (.cells cs.toArray t (0, 0)),
    fun h1 h2 h3 h => (h2 b (Array.getElem?_eq_some_iff.1 h).1 (.inl (List.mem_singleton.2 rfl))).trans h⟩
def own {α : Type} (d : Rp α) (e : TypeId) (v : Value) (xs : List α) : Chunk :=
  ⟨v.ownBlock.toList, fun w M => ∃ cells, w.ownsRow 0 e d.sz v xs.length cells ∧ Cells d w M xs cells,
    fun {w w' M M'} h1 h2 h3 ⟨cells, ho, hc⟩ => ⟨cells, by
      refine ⟨ho.1, ?_⟩
      rcases ho.2 with hn | ⟨g, cap, cur, hv, hb, hg, rest⟩
      · exact .inl hn
      · refine .inr ⟨g, cap, cur, hv, hb, ?_, rest⟩
        rw [h2 g (Array.getElem?_eq_some_iff.1 hg).1 (.inl (by rw [hv]; simp [Value.ownBlock]))]
        exact hg, hc.keep h1 (fun b hb hm => h2 b hb (.inr hm)) h3⟩⟩

def mines (H : List Chunk) : List Nat := H.flatMap (·.mine)
def Mset (M0 : Nat → Prop) (H : List Chunk) (b : Nat) : Prop := M0 b ∨ b ∈ mines H
structure Holds (M0 : Nat → Prop) (w0 w : World) (H : List Chunk) : Prop where
  below : Below w0.heap.size w0 w
  old : ∀ b, M0 b → b < w0.heap.size
  ok : ∀ c ∈ H, c.ok w (Mset M0 H)
  mine : ∀ b ∈ mines H, w0.heap.size ≤ b ∧ b < w.heap.size
  nodup : (mines H).Nodup

section
variable {M0 : Nat → Prop} {w0 w w' : World} {H : List Chunk}
theorem Holds.start {w0 : World} (ho : ∀ b, M0 b → b < w0.heap.size) : Holds M0 w0 w0 [] :=
  ⟨Below.refl _ _, ho, fun _ h => (by cases h), fun _ h => (by cases h), List.nodup_nil⟩
theorem Mset.lt (h : Holds M0 w0 w H) {b : Nat} (hb : Mset M0 H b) : b < w.heap.size := by
  rcases hb with hb | hb
  · exact Nat.lt_of_lt_of_le (h.old b hb) h.below.size
  · exact (h.mine b hb).2
theorem Holds.call (h : Holds M0 w0 w H) (hb : Below w.heap.size w w') : Holds M0 w0 w' H :=
  ⟨h.below.trans (hb.mono h.below.size), h.old, fun c hc => c.keep hb.size (fun b hlt _ => hb.block b hlt) (fun _ _ h => h) (h.ok c hc),
    fun b hm => ⟨(h.mine b hm).1, Nat.lt_of_lt_of_le (h.mine b hm).2 hb.size⟩, h.nodup⟩
theorem Holds.drew (h : Holds M0 w0 w H) : Holds M0 w0 w.drew H := h.call (Below.refl _ _).drew
theorem mines_append (H : List Chunk) (c : Chunk) : mines (H ++ [c]) = mines H ++ c.mine := by simp [mines]
theorem Holds.get (h : Holds M0 w0 w H) (i : Nat) {c : Chunk} (hi : H[i]? = some c) : c.ok w (Mset M0 H) := h.ok c (List.mem_of_getElem? hi)
theorem Holds.box (h : Holds M0 w0 w H) (t : TypeId) (cs : List Value) : Holds M0 w0 (w.alloc (.cells cs.toArray t)) (H ++ [Eng.box w.heap.size t cs]) := by
  have hsz : (w.alloc (.cells cs.toArray t)).heap.size = w.heap.size + 1 := by simp
  refine ⟨h.below.alloc h.below.size _, h.old, fun c hc => ?_, fun b hb => ?_, ?_⟩
  · rcases List.mem_append.1 hc with hc | hc
    · refine c.keep (by rw [hsz]; omega) (fun b hb _ => alloc_old w _ hb) (fun b hb hm => ?_) (h.ok c hc)
      rcases hm with hm | hm
      · exact .inl hm
      · rw [mines_append] at hm
        rcases List.mem_append.1 hm with hm | hm
        · exact .inr hm
        · simp [Eng.box] at hm; omega
    · simp at hc
      subst hc
      exact alloc_new w _
  · rw [mines_append] at hb
    rcases List.mem_append.1 hb with hb | hb
    · exact ⟨(h.mine b hb).1, by rw [hsz]; have := (h.mine b hb).2; omega⟩
    · simp [Eng.box] at hb
      subst hb
      exact ⟨h.below.size, by rw [hsz]; omega⟩
  · rw [mines_append]
    refine List.nodup_append.2 ⟨h.nodup, by simp [Eng.box], fun a ha b hb hab => ?_⟩
    simp [Eng.box] at hb
    subst hab
    have := (h.mine a ha).2
    omega
theorem Holds.add (h : Holds M0 w0 w H) (c : Chunk) (hm : c.mine = []) (hc : c.ok w (Mset M0 H)) : Holds M0 w0 w (H ++ [c]) := by
  have hme : mines (H ++ [c]) = mines H := by rw [mines_append, hm, List.append_nil]
  have hM : Mset M0 (H ++ [c]) = Mset M0 H := by funext b; simp only [Mset, hme]
  refine ⟨h.below, h.old, fun c' hc' => ?_, fun b hb => h.mine b (hme ▸ hb), by rw [hme]; exact h.nodup⟩
  rw [hM]
  rcases List.mem_append.1 hc' with hc' | hc'
  · exact h.ok c' hc'
  · simp at hc'; subst hc'; exact hc
theorem Holds.addSl {α : Type} (h : Holds M0 w0 w H) (d : Rp α) (v : Value) (xs : List α) (hs : Sl d w (Mset M0 H) v xs) : Holds M0 w0 w (H ++ [sl d v xs]) := h.add _ rfl hs
def pick (H : List Chunk) : List Nat → List Chunk
  | [] => []
  | i :: r => match H[i]? with
    | some c => c :: pick H r
    | none => pick H r
theorem pick_mem {H : List Chunk} : ∀ {is : List Nat} {c : Chunk}, c ∈ pick H is → c ∈ H
  | [], c, h => by simp [pick] at h
  | i :: r, c, h => by
    simp only [pick] at h
    cases hi : H[i]? with
    | none => simp only [hi] at h; exact pick_mem h
    | some x =>
      simp only [hi] at h
      rcases List.mem_cons.1 h with h | h
      · subst h; exact List.mem_of_getElem? hi
      · exact pick_mem h
theorem pick_at {H : List Chunk} : ∀ {is : List Nat} {b : Nat}, b ∈ mines (pick H is) → ∃ i ∈ is, ∃ c, H[i]? = some c ∧ b ∈ c.mine
  | [], b, h => by simp [pick, mines] at h
  | i :: r, b, h => by
    simp only [pick] at h
    cases hi : H[i]? with
    | none =>
      simp only [hi] at h
      obtain ⟨j, hj, c, hc⟩ := pick_at h
      exact ⟨j, List.mem_cons_of_mem _ hj, c, hc⟩
    | some x =>
      simp only [hi, mines, List.flatMap_cons, List.mem_append] at h
      rcases h with h | h
      · exact ⟨i, List.mem_cons_self, x, hi, h⟩
      · obtain ⟨j, hj, c, hc⟩ := pick_at (H := H) (is := r) h
        exact ⟨j, List.mem_cons_of_mem _ hj, c, hc⟩
theorem nodup_at {H : List Chunk} (hn : (mines H).Nodup) : ∀ {i j : Nat} {c c' : Chunk} {b : Nat}, H[i]? = some c → H[j]? = some c' → b ∈ c.mine → b ∈ c'.mine → i = j := by
  induction H with
  | nil => intro i j c c' b h; simp at h
  | cons x H ih =>
    intro i j c c' b hi hj hb hb'
    simp only [mines, List.flatMap_cons] at hn
    obtain ⟨_, hn2, hd⟩ := List.nodup_append.1 hn
    have inH : ∀ {k : Nat} {y : Chunk}, H[k]? = some y → b ∈ y.mine → b ∈ mines H := fun hk hy => List.mem_flatMap.2 ⟨_, List.mem_of_getElem? hk, hy⟩
    cases i with
    | zero =>
      simp at hi
      subst hi
      cases j with
      | zero => rfl
      | succ j => simp at hj; exact absurd rfl (hd b hb b (inH hj hb'))
    | succ i =>
      simp at hi
      cases j with
      | zero => simp at hj; subst hj; exact absurd rfl (hd b hb' b (inH hi hb))
      | succ j => simp at hj; rw [ih hn2 hi hj hb hb']
theorem pick_nodup {H : List Chunk} (hn : (mines H).Nodup) : ∀ {is : List Nat}, is.Nodup → (∀ c ∈ H, c.mine.Nodup) → (mines (pick H is)).Nodup
  | [], _, _ => by simp [pick, mines]
  | i :: r, h, hc => by
    obtain ⟨h1, h2⟩ := List.nodup_cons.1 h
    simp only [pick]
    cases hi : H[i]? with
    | none => exact pick_nodup hn h2 hc
    | some x =>
      simp only [mines, List.flatMap_cons]
      refine List.nodup_append.2 ⟨hc x (List.mem_of_getElem? hi), pick_nodup hn h2 hc, fun a ha b hb hab => ?_⟩
      subst hab
      obtain ⟨j, hj, c, hj2, hc2⟩ := pick_at (H := H) (is := r) hb
      have := nodup_at hn hi hj2 ha hc2
      subst this
      exact h1 hj
theorem mine_nodup {H : List Chunk} (hn : (mines H).Nodup) : ∀ c ∈ H, c.mine.Nodup := by
  induction H with
  | nil => intro c h; cases h
  | cons x H ih =>
    intro c hc
    simp only [mines, List.flatMap_cons] at hn
    obtain ⟨h1, h2, _⟩ := List.nodup_append.1 hn
    rcases List.mem_cons.1 hc with rfl | hc
    · exact h1
    · exact ih h2 c hc
theorem Holds.pick (h : Holds M0 w0 w H) (is : List Nat) (hd : is.Nodup) : Holds M0 w0 w (Eng.pick H is) := by
  have hsub : ∀ b, b ∈ mines (Eng.pick H is) → b ∈ mines H := fun b hb => by
    obtain ⟨i, _, c, hi, hc⟩ := pick_at hb
    exact List.mem_flatMap.2 ⟨c, List.mem_of_getElem? hi, hc⟩
  exact ⟨h.below, h.old, fun c hc => c.keep (Nat.le_refl _) (fun _ _ _ => rfl) (fun b _ hm => hm.imp id (hsub b)) (h.ok c (pick_mem hc)),
    fun b hb => h.mine b (hsub b hb), pick_nodup h.nodup hd (mine_nodup h.nodup)⟩
theorem Holds.turn (h : Holds M0 w0 w H) (i : Nat) {c c' : Chunk} (hi : H[i]? = some c) (hg : Below w0.heap.size w0 w') (hsz : w.heap.size ≤ w'.heap.size)
    (hblock : ∀ b, b < w.heap.size → b ∉ c.mine → w'.heap[b]? = w.heap[b]?) (hmine : ∀ b ∈ c'.mine, b ∈ c.mine ∨ (w.heap.size ≤ b ∧ b < w'.heap.size)) (hcn : c'.mine.Nodup)
    (hok : (∀ b, b < w.heap.size → Mset M0 (H.set i c') b → Mset M0 H b) → c'.ok w' (Mset M0 (H.set i c'))) : Holds M0 w0 w' (H.set i c') := by
  have hi' : i < H.length := (List.getElem?_eq_some_iff.1 hi).1
  have at_ : ∀ b, b ∈ mines (H.set i c') → (b ∈ c'.mine) ∨ ∃ j x, j ≠ i ∧ H[j]? = some x ∧ b ∈ x.mine := fun b hb => by
    obtain ⟨x, hx, hbx⟩ := List.mem_flatMap.1 hb
    obtain ⟨j, hj⟩ := List.mem_iff_getElem?.1 hx
    by_cases hji : i = j
    · subst hji
      rw [List.getElem?_set_self hi'] at hj
      cases hj
      exact .inl hbx
    · rw [List.getElem?_set_ne hji] at hj
      exact .inr ⟨j, x, fun e => hji e.symm, hj, hbx⟩
  have inH : ∀ {b j : Nat} {x : Chunk}, H[j]? = some x → b ∈ x.mine → b ∈ mines H := fun hj hb => List.mem_flatMap.2 ⟨_, List.mem_of_getElem? hj, hb⟩
  have hM : ∀ b, b < w.heap.size → Mset M0 (H.set i c') b → Mset M0 H b := fun b hb hm => by
    rcases hm with hm | hm
    · exact .inl hm
    · rcases at_ b hm with hm | ⟨j, x, _, hj, hbx⟩
      · rcases hmine b hm with hm | ⟨hm, _⟩
        · exact .inr (inH hi hm)
        · omega
      · exact .inr (inH hj hbx)
  refine ⟨hg, h.old, fun x hx => ?_, fun b hb => ?_, ?_⟩
  · obtain ⟨j, hj⟩ := List.mem_iff_getElem?.1 hx
    by_cases hji : i = j
    · subst hji
      rw [List.getElem?_set_self hi'] at hj
      cases hj
      exact hok hM
    · rw [List.getElem?_set_ne hji] at hj
      refine x.keep hsz (fun b hb hor => hblock b hb fun hbc => ?_) hM (h.ok x (List.mem_of_getElem? hj))
      rcases hor with hor | hor
      · exact hji (nodup_at h.nodup hi hj hbc hor)
      · exact hor (.inr (inH hi hbc))
  · rcases at_ b hb with hb | ⟨j, x, _, hj, hbx⟩
    · rcases hmine b hb with hb | ⟨h1, h2⟩
      · have := h.mine b (inH hi hb); exact ⟨this.1, by omega⟩
      · exact ⟨Nat.le_trans h.below.size h1, h2⟩
    · have := h.mine b (inH hj hbx); exact ⟨this.1, by omega⟩
  · have : ∀ (L : List Chunk) (i : Nat), i < L.length → (∀ x ∈ L, x.mine.Nodup) → (∀ (j k : Nat) (x y : Chunk) (b : Nat), L[j]? = some x → L[k]? = some y → j ≠ i → k ≠ i → b ∈ x.mine → b ∈ y.mine → j = k) →
        (∀ (j : Nat) (x : Chunk) (b : Nat), L[j]? = some x → j ≠ i → b ∈ x.mine → b ∉ c'.mine) → (mines (L.set i c')).Nodup := by
      intro L
      induction L with
      | nil => intro i hi; simp at hi
      | cons x L ih =>
        intro i hiL hnx hdis hc2
        cases i with
        | zero =>
          simp only [List.set_cons_zero, mines, List.flatMap_cons]
          refine List.nodup_append.2 ⟨hcn, ?_, fun a ha b hb hab => ?_⟩
          · have : ∀ (L : List Chunk), (∀ x ∈ L, x.mine.Nodup) → (∀ (j k : Nat) (x y : Chunk) (b : Nat), L[j]? = some x → L[k]? = some y → b ∈ x.mine → b ∈ y.mine → j = k) → (mines L).Nodup := by
              intro L
              induction L with
              | nil => intros; exact List.nodup_nil
              | cons y L ihL =>
                intro h1 h2
                simp only [mines, List.flatMap_cons]
                refine List.nodup_append.2 ⟨h1 y List.mem_cons_self, ihL (fun x hx => h1 x (List.mem_cons_of_mem _ hx)) (fun j k x y b hj hk hx hy => by
                  have := h2 (j + 1) (k + 1) x y b (by simpa using hj) (by simpa using hk) hx hy; omega), fun a ha b hb hab => ?_⟩
                subst hab
                obtain ⟨z, hz, hbz⟩ := List.mem_flatMap.1 hb
                obtain ⟨j, hj⟩ := List.mem_iff_getElem?.1 hz
                have := h2 0 (j + 1) y z a (by simp) (by simpa using hj) ha hbz
                omega
            exact this L (fun x hx => hnx x (List.mem_cons_of_mem _ hx)) (fun j k x y b hj hk hx hy => by
              have := hdis (j + 1) (k + 1) x y b (by simpa using hj) (by simpa using hk) (by omega) (by omega) hx hy; omega)
          · subst hab
            obtain ⟨z, hz, hbz⟩ := List.mem_flatMap.1 hb
            obtain ⟨j, hj⟩ := List.mem_iff_getElem?.1 hz
            exact hc2 (j + 1) z a (by simpa using hj) (by omega) hbz ha
        | succ i =>
          simp only [List.set_cons_succ, mines, List.flatMap_cons]
          refine List.nodup_append.2 ⟨hnx x List.mem_cons_self, ih i (by simpa using hiL) (fun y hy => hnx y (List.mem_cons_of_mem _ hy)) (fun j k x y b hj hk hji hki hx hy => by
              have := hdis (j + 1) (k + 1) x y b (by simpa using hj) (by simpa using hk) (by omega) (by omega) hx hy; omega)
            (fun j y b hj hji hy => hc2 (j + 1) y b (by simpa using hj) (by omega) hy), fun a ha b hb hab => ?_⟩
          subst hab
          obtain ⟨z, hz, hbz⟩ := List.mem_flatMap.1 hb
          obtain ⟨j, hj⟩ := List.mem_iff_getElem?.1 hz
          by_cases hji : i = j
          · subst hji
            rw [List.getElem?_set_self (by simpa using hiL)] at hj
            cases hj
            exact hc2 0 x a (by simp) (by omega) ha hbz
          · rw [List.getElem?_set_ne hji] at hj
            have := hdis 0 (j + 1) x z a (by simp) (by simpa using hj) (by omega) (by omega) ha hbz
            omega
    refine this H i hi' (mine_nodup h.nodup) (fun j k x y b hj hk _ _ hx hy => nodup_at h.nodup hj hk hx hy) (fun j x b hj hji hb hb' => ?_)
    rcases hmine b hb' with hb' | ⟨hb', _⟩
    · exact hji (nodup_at h.nodup hj hi hb hb')
    · have := (h.mine b (inH hj hb)).2; omega
end
#print axioms Holds.turn
end Go.Eng
