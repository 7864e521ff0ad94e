/- The engine's door: what an argument reads as is laid open as the engine holds it: its list, its ranges, its sizes. -/
import Derived.Test.YtbcepghanbkncaaGreatDoorEngRow
import Derived.WalkKit
import Derived.ProofKit
import Derived.OpenShut
import Derived.ShutString
import Derived.ChangeOld
import Derived.Below
import Derived.SizedLaws
import Derived.Deep.Slices
set_option linter.unusedVariables false
set_option linter.unusedSimpArgs false
namespace Go.Eng
open Go.RowKit Go.ChangeShapes Go.WideShapes

def Opn (P : Program) (t : TypeId) {α : Type} (d : Rp α) (wf : α → Prop) : Prop :=
  P.cellsOf t = d.sz ∧ ∀ (H : Type) (enc : TypeId × Value → H) (w : World) (base : Nat) (spare : Nat → Bool) (held : Bool) (fuel : Nat) (cs : List Value) (x : DataW H × List MemPlace),
    DataW.trod enc P w base spare held fuel t cs = some x → (∀ n ∈ x.1.weights P t, n ≤ reachBytes) → ∃ a : α, d.K w (fun _ => False) a cs ∧ wf a
section
variable {P : Program} {t e : TypeId}
theorem Opn.int {k : IntKind} (ht : P.underlying t = some (.int k)) (hc : P.cellsOf t = 1) : Opn P t (Rp.int k) (fun x => (Lit.int k x).wf = true) :=
  ⟨hc, fun H enc w base spare held fuel cs x h _ => by
    obtain ⟨n, rfl, _, hw⟩ := DataW.trod_int ht h
    exact ⟨n, rfl, hw⟩⟩
theorem Opn.bool (ht : P.underlying t = some .bool) (hc : P.cellsOf t = 1) : Opn P t Rp.bool (fun _ => True) :=
  ⟨hc, fun H enc w base spare held fuel cs x h _ => by
    obtain ⟨b, rfl, _⟩ := DataW.trod_bool ht h
    exact ⟨b, rfl, trivial⟩⟩
theorem Opn.str (ht : P.underlying t = some .string) (hc : P.cellsOf t = 1) : Opn P t Rp.str (fun s => s.size ≤ 140737488351232) :=
  ⟨hc, fun H enc w base spare held fuel cs x h hs => by
    obtain ⟨s, rfl, rfl, _⟩ := DataW.trod_string ht h
    have := hs s.data.toList.length (by simp [DataW.weights])
    refine ⟨s, rfl, ?_⟩
    rw [Array.length_toList] at this
    exact this⟩
theorem weightsAll_mem {H : Type} {P : Program} {e : TypeId} : ∀ {l : List (DataW H)} {d : DataW H}, d ∈ l → ∀ n ∈ d.weights P e, n ∈ DataW.weightsAll P e l
  | y :: l, d, hd, n, hn => by
    simp only [DataW.weightsAll, List.mem_append]
    rcases List.mem_cons.1 hd with rfl | hd
    · exact .inl hn
    · exact .inr (weightsAll_mem hd n hn)
theorem Opn.slice {α : Type} {d : Rp α} {wf : α → Prop} {B : Nat} (ht : P.underlying t = some (.slice e)) (hc : P.cellsOf t = 1) (hB : P.bytesOf e = B) (hz : 0 < d.sz) (o : Opn P e d wf) :
    Opn P t (Rp.slice d) (fun xs => xs.length * B ≤ 140737488351232 ∧ ∀ x ∈ xs, wf x) :=
  ⟨hc, fun H enc w base spare held fuel cs x h hs => by
    rcases Go.Deep.open_slice ht h with ⟨rfl, rfl⟩ | ⟨a, len, cap, m, n, D, Pl, rfl, hb, hl, hm, hmm, rfl, hx⟩
    · exact ⟨[], ⟨_, rfl, Sl.nil _ _ _⟩, by simp, fun x hx => by cases hx⟩
    have hlm : len ≤ m := by rw [hmm]; split <;> omega
    have hw : ∀ i, i < len → ∀ n ∈ (D i).weights P e, n ≤ reachBytes := fun i hi n hn => by
      refine hs n ?_
      simp only [DataW.weights, ht, List.mem_cons, List.mem_append]
      exact .inr (.inl (weightsAll_mem (List.mem_map.2 ⟨i, List.mem_range.2 hi, rfl⟩) n hn))
    have hbytes : len * B ≤ 140737488351232 := by
      have := hs ((((List.range len).map D).length + ((List.range (m - len)).map fun j => D (len + j)).length) * P.bytesOf e) (by simp [DataW.weights, ht])
      simp only [List.length_map, List.length_range, hB] at this
      have h2 : len * B ≤ (len + (m - len)) * B := Nat.mul_le_mul_right _ (by omega)
      have h3 : reachBytes = 140737488351232 := by decide
      omega
    have hel : ∀ i, i < len → ∃ a' : α, (∃ cs', w.cells? base (a.add (i * d.sz)) d.sz = some cs' ∧ d.K w (fun _ => False) a' cs') ∧ wf a' := fun i hi => by
      obtain ⟨cs', h1, h2⟩ := hx i (by omega)
      obtain ⟨y, h3, h4⟩ := o.2 H enc w base spare held n cs' _ h2 (hw i hi)
      rw [o.1] at h1
      exact ⟨y, ⟨cs', h1, h3⟩, h4⟩
    obtain ⟨f, hf⟩ : ∃ f : Nat → Option α, ∀ i, i < len → ∃ y, f i = some y ∧ (∃ cs', w.cells? base (a.add (i * d.sz)) d.sz = some cs' ∧ d.K w (fun _ => False) y cs') ∧ wf y := by
      classical
      refine ⟨fun i => if h : i < len then some (Classical.choose (hel i h)) else none, fun i hi => ⟨_, dif_pos hi, Classical.choose_spec (hel i hi)⟩⟩
    obtain ⟨xs, hxs⟩ : ∃ xs, (List.range len).mapM f = some xs := by
      have : ∀ (l : List Nat), (∀ i ∈ l, i < len) → ∃ xs, l.mapM f = some xs := by
        intro l
        induction l with
        | nil => intro _; exact ⟨[], rfl⟩
        | cons i l ih =>
          intro hl'
          obtain ⟨y, hy, _⟩ := hf i (hl' i (by simp))
          obtain ⟨ys, hys⟩ := ih (fun j hj => hl' j (by simp [hj]))
          exact ⟨y :: ys, by rw [List.mapM_cons, hy, hys]; rfl⟩
      exact this _ (fun i hi => List.mem_range.1 hi)
    have hlen : xs.length = len := by simpa using mapM_some_length hxs
    have hget : ∀ i, i < len → f i = xs[i]? := fun i hi => mapM_some_get hxs i i (by simp [hi])
    refine ⟨xs, ⟨_, rfl, ?_⟩, by rw [hlen]; exact hbytes, fun x hx => ?_⟩
    · refine ⟨some a, cap, by rw [hlen], by rw [hlen]; exact hl, hm, (fun h => by cases h), fun hp => ?_⟩
      rw [hlen] at hp
      obtain ⟨b, o', sp⟩ := a
      have hcell : ∀ i j, i < len → j < d.sz → ∃ u, w.cell? ((Addr.add ⟨b, o', sp⟩ (i * d.sz)).add j) = some u := fun i j hi hj => by
        obtain ⟨y, hy, ⟨cs', h1, h2⟩, _⟩ := hf i hi
        obtain ⟨_, hl1, h3⟩ := World.cells?_some h1
        rw [h3 j hj]
        exact ⟨_, List.getElem?_eq_getElem (by omega)⟩
      have hsp : sp = none := by
        obtain ⟨u, hu⟩ := hcell 0 0 hp hz
        simp only [Nat.zero_mul, Addr.add, if_true] at hu
        unfold World.cell? at hu
        split at hu
        · cases sp with
          | none => rfl
          | some s => simp at hu
        · cases hu
      subst hsp
      have hblt : b < w.heap.size := by
        obtain ⟨u, hu⟩ := hcell 0 0 hp hz
        simp only [Nat.zero_mul, Addr.add, if_true] at hu
        exact World.block_lt_of_cell? w _ hu
      refine ⟨b, o', rfl, hblt, fun h => h, fun j y hy => ?_⟩
      have hj : j < len := by rw [← hlen]; exact (List.getElem?_eq_some_iff.1 hy).1
      obtain ⟨y', hy', ⟨cs', h1, h2⟩, _⟩ := hf j hj
      rw [hget j hj, hy] at hy'
      cases hy'
      obtain ⟨_, hl1, h3⟩ := World.cells?_some h1
      refine ⟨cs', h2, fun i u hu => ?_⟩
      have hi : i < d.sz := by rw [← hl1]; exact (List.getElem?_eq_some_iff.1 hu).1
      have := h3 i hi
      rw [Addr.add_lit, Addr.add_lit, hu] at this
      exact this
    · obtain ⟨i, hi⟩ := List.mem_iff_getElem?.1 hx
      have hil : i < len := by rw [← hlen]; exact (List.getElem?_eq_some_iff.1 hi).1
      obtain ⟨y', hy', _, hwf⟩ := hf i hil
      rw [hget i hil, hi] at hy'
      cases hy'
      exact hwf⟩
def OpnL (P : Program) (o : Nat) (fs : List Field) {α : Type} (d : Rp α) (wf : α → Prop) : Prop :=
  ∀ (H : Type) (enc : TypeId × Value → H) (w : World) (base : Nat) (spare : Nat → Bool) (held : Bool) (fuel : Nat) (cs : List Value) (xs : List (DataW H × List MemPlace)), cs.length = o + d.sz →
    fs.mapM (fun f => DataW.trod enc P w base spare held fuel f.type ((cs.drop f.offset).take (P.cellsOf f.type))) = some xs → (∀ n ∈ DataW.weightsEach P (fs.map (·.type)) (xs.map (·.1)), n ≤ reachBytes) →
    ∃ a : α, d.K w (fun _ => False) a (cs.drop o) ∧ wf a
theorem OpnL.one {o : Nat} {f : Field} {α : Type} {d : Rp α} {wf : α → Prop} (ho : f.offset = o) (h : Opn P f.type d wf) : OpnL P o [f] d wf := by
  intro H enc w base spare held fuel cs xs hl hm hs
  simp only [List.mapM_cons, List.mapM_nil] at hm
  obtain ⟨x, hx, hm⟩ := Option.bind_eq_some_iff.1 hm
  cases hm
  obtain ⟨a, h1, h2⟩ := h.2 H enc w base spare held fuel _ x hx (fun n hn => hs n (by simp [DataW.weightsEach, hn]))
  refine ⟨a, ?_, h2⟩
  rw [ho, h.1, List.take_of_length_le (by simp; omega)] at h1
  exact h1
theorem OpnL.cons {o o2 : Nat} {f : Field} {fs : List Field} {α β : Type} {d : Rp α} {d2 : Rp β} {wf : α → Prop} {wf2 : β → Prop} (ho : f.offset = o) (h : Opn P f.type d wf) (ho2 : o + d.sz = o2) (hr : OpnL P o2 fs d2 wf2) :
    OpnL P o (f :: fs) (Rp.pair d d2) (fun x => wf x.1 ∧ wf2 x.2) := by
  intro H enc w base spare held fuel cs xs hl hm hs
  have hsz : (Rp.pair d d2).sz = d.sz + d2.sz := rfl
  rw [hsz] at hl
  simp only [List.mapM_cons] at hm
  obtain ⟨x, hx, hm⟩ := Option.bind_eq_some_iff.1 hm
  obtain ⟨ys, hys, hm⟩ := Option.bind_eq_some_iff.1 hm
  cases hm
  simp only [List.map_cons, DataW.weightsEach, List.mem_append] at hs
  obtain ⟨a, h1, h2⟩ := h.2 H enc w base spare held fuel _ x hx (fun n hn => hs n (.inl hn))
  obtain ⟨b, h3, h4⟩ := hr H enc w base spare held fuel cs ys (by omega) hys (fun n hn => hs n (.inr hn))
  rw [ho, h.1] at h1
  refine ⟨(a, b), ⟨_, _, ?_, h1, h3⟩, h2, h4⟩
  subst ho2
  rw [← List.drop_drop, List.take_append_drop]
theorem Opn.struct {fs : Array Field} {α : Type} {d : Rp α} {wf : α → Prop} (ht : P.underlying t = some (.struct fs)) (hc : P.cellsOf t = d.sz) (h : OpnL P 0 fs.toList d wf) : Opn P t d wf :=
  ⟨hc, fun H enc w base spare held fuel cs x hx hs => by
    cases fuel with
    | zero => simp [DataW.trod] at hx
    | succ fuel =>
      have hx' : (if cs.length = P.cellsOf t then (fs.toList.mapM fun f => DataW.trod enc P w base spare held fuel f.type ((cs.drop f.offset).take (P.cellsOf f.type))).map fun xs => ((.agg (xs.map (·.1)), xs.flatMap (·.2)) : DataW H × List MemPlace) else none) = some x := by
        rw [← hx]
        conv => rhs; unfold DataW.trod
        simp only [ht]
      split at hx'
      · rename_i hl
        obtain ⟨xs, hm, rfl⟩ := Option.map_eq_some_iff.1 hx'
        obtain ⟨a, h1, h2⟩ := h H enc w base spare held fuel cs xs (by omega) hm (fun n hn => hs n (by simpa [DataW.weights, ht] using hn))
        exact ⟨a, by simpa using h1, h2⟩
      · cases hx'⟩
end
#print axioms Opn.struct
end Go.Eng
namespace Go.Eng
open Go.RowKit Go.ChangeShapes Go.WideShapes
section
variable {P : Program} {t : TypeId} {H : Type} {enc : TypeId × Value → H} {W : World} {base : Nat} {spare : Nat → Bool} {held : Bool}
theorem Opn.get {α : Type} {d : Rp α} {wf : α → Prop} {ts : List TypeId} {ds : List (DataW H)} {v : Value} {x : DataW H} {ps : List MemPlace} (o : Opn P t d wf) (hsz : (DataW.weightsEach P ts ds).all (· ≤ reachBytes) = true) (j : Nat)
    (ht : ts[j]? = some t) (hd : ds[j]? = some x) (h : DataW.Trod enc P W base spare held t v x ps) : ∃ a, d.K W (fun _ => False) a v.cells.toList ∧ wf a := by
  obtain ⟨fuel, hf⟩ := h
  exact o.2 H enc W base spare held fuel _ _ hf fun n hn => by
    have := List.all_eq_true.1 hsz _ (DataW.weights_mem_each ht hd n hn)
    simpa using this
theorem Opn.getSl {α : Type} {d : Rp α} {wf : List α → Prop} {ts : List TypeId} {ds : List (DataW H)} {A : Option Addr} {len cap : Nat} {x : DataW H} {ps : List MemPlace} (o : Opn P t (Rp.slice d) wf) (hsz : (DataW.weightsEach P ts ds).all (· ≤ reachBytes) = true) (j : Nat)
    (ht : ts[j]? = some t) (hd : ds[j]? = some x) (h : DataW.Trod enc P W base spare held t (.slice A len cap) x ps) : ∃ zs, zs.length = len ∧ Sl d W (fun _ => False) (.slice A zs.length cap) zs ∧ wf zs := by
  obtain ⟨zs, ⟨v, hv, hs⟩, hw⟩ := o.get hsz j ht hd h
  have hv' : v = .slice A len cap := by simpa [Value.cells] using hv.symm
  subst hv'
  obtain ⟨A', c', hv2⟩ := hs.form
  simp only [Value.slice.injEq] at hv2
  obtain ⟨_, rfl, _⟩ := hv2
  exact ⟨zs, rfl, hs, hw⟩
theorem Trod_lt {v : Value} {x : DataW H} {ps : List MemPlace} (h : DataW.Trod enc P W base spare held t v x ps) : ∀ y ∈ ps, y.block < W.heap.size := by
  obtain ⟨m, hm⟩ := h
  exact DataW.trod_lt m _ _ _ hm
end
end Go.Eng
