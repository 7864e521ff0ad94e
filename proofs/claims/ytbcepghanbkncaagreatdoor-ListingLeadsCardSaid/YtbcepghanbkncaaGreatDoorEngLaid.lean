/- The engine's door for tables: what the program lays into its variables, as the cells of a table. -/
import Derived.Test.YtbcepghanbkncaaGreatDoorEngOpen
import Derived.Test.YtbcepghanbkncaaGreatDoorEngTab
import Derived.MakeChecks
set_option linter.unusedVariables false
set_option linter.unusedSimpArgs false
namespace Go.Eng
open Go.RowKit Go.ChangeShapes Go.WideShapes

def Opd (P : Program) (t : TypeId) {α : Type} (en : α → List Value) (sz : Nat) (dt : α → DataW Unit) : Prop :=
  P.cellsOf t = sz ∧ (∀ a b, dt a = dt b → a = b) ∧ ∀ (enc : TypeId × Value → Unit) (w : World) (base : Nat) (spare : Nat → Bool) (held : Bool) (fuel : Nat) (cs : List Value) (x : DataW Unit × List MemPlace),
    DataW.trod enc P w base spare held fuel t cs = some x → ∃ a : α, cs = en a ∧ x.1 = dt a
section
variable {P : Program} {t e : TypeId}
theorem Opd.int {k : IntKind} (ht : P.underlying t = some (.int k)) (hc : P.cellsOf t = 1) : Opd P t (fun n => [Value.int k n]) 1 (fun n => .lit (.int k n)) :=
  ⟨hc, fun a b h => by simpa using h, fun enc w base spare held fuel cs x h => by
    obtain ⟨n, rfl, rfl, _⟩ := DataW.trod_int ht h
    exact ⟨n, rfl, rfl⟩⟩
theorem Opd.str (ht : P.underlying t = some .string) (hc : P.cellsOf t = 1) : Opd P t (fun s => [Value.string s]) 1 (fun s => .lit (.string s.data.toList)) :=
  ⟨hc, fun a b h => by
    have h := congrArg (fun d => match d with | DataW.lit (.string l) => l | _ => []) h
    simp only at h
    obtain ⟨⟨a⟩⟩ := a
    obtain ⟨⟨b⟩⟩ := b
    simp only at h
    subst h
    rfl, fun enc w base spare held fuel cs x h => by
    obtain ⟨s, rfl, rfl, _⟩ := DataW.trod_string ht h
    exact ⟨s, rfl, rfl⟩⟩
theorem Opd.pair {fs : Array Field} {f g : Field} {α β : Type} {en1 : α → List Value} {en2 : β → List Value} {s1 s2 : Nat} {dt1 : α → DataW Unit} {dt2 : β → DataW Unit} (ht : P.underlying t = some (.struct fs)) (hfs : fs.toList = [f, g]) (hc : P.cellsOf t = s1 + s2)
    (hf : f.offset = 0) (hg : g.offset = s1) (h1 : Opd P f.type en1 s1 dt1) (h2 : Opd P g.type en2 s2 dt2) : Opd P t (fun x : α × β => en1 x.1 ++ en2 x.2) (s1 + s2) (fun x => .agg [dt1 x.1, dt2 x.2]) :=
  ⟨hc, fun a b h => by
    simp only [DataW.agg.injEq, List.cons.injEq, and_true] at h
    exact Prod.ext (h1.2.1 _ _ h.1) (h2.2.1 _ _ h.2), fun enc w base spare held fuel cs x hx => by
    cases fuel with
    | zero => simp [DataW.trod] at hx
    | succ fuel =>
      have hx' : (if cs.length = P.cellsOf t then (fs.toList.mapM fun f => DataW.trod enc P w base spare held fuel f.type ((cs.drop f.offset).take (P.cellsOf f.type))).map fun xs => ((.agg (xs.map (·.1)), xs.flatMap (·.2)) : DataW Unit × List MemPlace) else none) = some x := by
        rw [← hx]
        conv => rhs; unfold DataW.trod
        simp only [ht]
      split at hx'
      · rename_i hl
        obtain ⟨xs, hm, rfl⟩ := Option.map_eq_some_iff.1 hx'
        rw [hfs] at hm
        simp only [List.mapM_cons, List.mapM_nil] at hm
        obtain ⟨y1, hy1, hm⟩ := Option.bind_eq_some_iff.1 hm
        obtain ⟨ys, hys, hm⟩ := Option.bind_eq_some_iff.1 hm
        obtain ⟨y2, hy2, hys⟩ := Option.bind_eq_some_iff.1 hys
        cases hys
        cases hm
        obtain ⟨a, ha, hda⟩ := h1.2.2 enc w base spare held fuel _ _ hy1
        obtain ⟨b, hb, hdb⟩ := h2.2.2 enc w base spare held fuel _ _ hy2
        rw [hf, h1.1, List.drop_zero] at ha
        rw [hg, h2.1, List.take_of_length_le (by simp; omega)] at hb
        exact ⟨(a, b), by show cs = en1 a ++ en2 b; rw [← ha, ← hb, List.take_append_drop], by simp [hda, hdb]⟩
      · cases hx'⟩
theorem tab_cells {W : World} {n : Nat} {α : Type} {en : α → List Value} {sz : Nat} {dt : α → DataW Unit} {enc : TypeId × Value → Unit} {base : Nat} {spare : Nat → Bool} {held : Bool} {fuel : Nat} {cs : List Value} {tab : List α} {d : DataW Unit} {p : List MemPlace}
    (ht : P.underlying t = some (.array n e)) (o : Opd P e en sz dt) (hc : P.cellsOf t = n * sz) (h : DataW.trod enc P W base spare held fuel t cs = some (d, p)) (hd : d = .agg (tab.map dt)) : cs = tab.flatMap en := by
  obtain ⟨xs, m, _, hx, hlen, hn, hel⟩ := DataW.trod_array ht h
  rw [o.1] at hel
  rw [hc] at hlen
  have hdx : xs.map (·.1) = tab.map dt := by
    have := congrArg (·.1) hx
    simp only [hd] at this
    injection this with this
    exact this.symm
  have key : ∀ (k i : Nat) (ys : List (DataW Unit × List MemPlace)) (ta : List α), i + k = n → xs.drop i = ys → ys.map (·.1) = ta.map dt → cs.drop (i * sz) = ta.flatMap en := by
    intro k
    induction k with
    | zero =>
      intro i ys ta hi hy hyt
      obtain rfl : i = n := by omega
      rw [List.drop_of_length_le (by omega)] at hy
      subst hy
      simp only [List.map_nil] at hyt
      have : ta = [] := List.map_eq_nil_iff.1 hyt.symm
      rw [this, List.drop_of_length_le (by omega)]
      rfl
    | succ k ih =>
      intro i ys ta hi hy hyt
      have hlt : i < xs.length := by omega
      have h1 := hel i (by omega)
      rw [List.getElem?_eq_getElem hlt] at h1
      obtain ⟨a, ha, hda⟩ := o.2.2 enc W base spare held m _ _ h1
      rw [List.drop_eq_getElem_cons hlt] at hy
      subst hy
      cases ta with
      | nil => cases hyt
      | cons b ta =>
        simp only [List.map_cons, List.cons.injEq] at hyt
        have hab : a = b := o.2.1 _ _ (hda.symm.trans hyt.1)
        subst hab
        have hrest := ih (i + 1) _ ta (by omega) rfl hyt.2
        rw [List.flatMap_cons, ← ha, ← hrest, show (i + 1) * sz = i * sz + sz by rw [Nat.add_mul]; omega, ← List.drop_drop, List.take_append_drop]
  have := key n 0 xs tab (by omega) (by simp) hdx
  simpa using this
theorem gl_of_var {W : World} {nm : String} {g : Nat} {cs : Array Value} {α : Type} {en : α → List Value} {tab : List α} (hg : P.globalNamed nm = some g) (hv : W.var? P nm = some cs) (hc : cs.toList = tab.flatMap en) (hne : Nat.ble 1 (tab.flatMap en).length = true) : (gl g (tab.flatMap en)).ok W (fun _ => False) := by
  have hcell : ∀ i u, (tab.flatMap en)[i]? = some u → W.cell? ⟨g, 0 + i, none⟩ = some u := fun i u hu => by
    rw [World.var?_cell hg hv, Nat.zero_add, ← hu, ← hc]
    simp
  obtain ⟨u, hu⟩ : ∃ u, (tab.flatMap en)[0]? = some u := ⟨_, List.getElem?_eq_getElem (Nat.le_of_ble_eq_true hne)⟩
  refine ⟨World.block_lt_of_cell? W _ (hcell 0 u hu), fun h => h, hcell, ?_⟩
  unfold World.var? at hv
  rw [hg] at hv
  simp only [Option.bind_some] at hv
  split at hv
  · rename_i cs' t z hb
    obtain rfl := Option.some.inj hv
    exact ⟨t, z, by rw [hb, ← hc]⟩
  · cases hv
end
#print axioms tab_cells
theorem cel_of {w : World} {g : Nat} {v : Value} (h : w.cell? ⟨g, 0, none⟩ = some v) : (cel g 0 [v]).ok w (fun _ => False) := by
  refine ⟨?_, fun hf => hf, fun i u hu => ?_⟩
  · rcases Nat.lt_or_ge g w.heap.size with h' | h'
    · exact h'
    · simp [World.cell?, Array.getElem?_eq_none h'] at h
  · cases i with
    | zero => simp at hu; subst hu; exact h
    | succ i => simp at hu
end Go.Eng
