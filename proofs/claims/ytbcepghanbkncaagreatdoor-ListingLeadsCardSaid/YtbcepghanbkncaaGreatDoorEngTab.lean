/- The engine's tables: rows of the program's own data that nothing writes, read at any place. -/
import Derived.Test.YtbcepghanbkncaaGreatDoorEngRow
set_option linter.unusedVariables false
set_option linter.unusedSimpArgs false
namespace Go.Eng
open Go.RowKit

theorem tab_drop {α : Type} {en : α → List Value} {sz : Nat} (hen : ∀ x, (en x).length = sz) : ∀ (tab : List α) (j : Nat) (x : α), tab[j]? = some x → ∃ rest, (tab.flatMap en).drop (j * sz) = en x ++ rest
  | [], j, x, h => by simp at h
  | y :: tab, 0, x, h => by
    simp at h
    subst h
    exact ⟨tab.flatMap en, by simp⟩
  | y :: tab, j + 1, x, h => by
    obtain ⟨rest, hr⟩ := tab_drop hen tab j x (by simpa using h)
    refine ⟨rest, ?_⟩
    rw [List.flatMap_cons, show (j + 1) * sz = (en y).length + j * sz by rw [hen y, Nat.add_mul]; omega, List.drop_length_add_append, hr]
theorem tab_at {α : Type} [Inhabited α] {en : α → List Value} {sz : Nat} (hen : ∀ x, (en x).length = sz) {tab : List α} {j : Int} (hr : inR j tab.length = true) : ∃ rest, (tab.flatMap en).drop (j.toNat * sz) = en (rdD tab j) ++ rest := by
  obtain ⟨h0, h1⟩ := inR_spec hr
  refine tab_drop hen tab j.toNat _ ?_
  unfold rdD
  have : j.toNat < tab.length := by omega
  simp [this]
section
variable {P : Program} {F : Fun P} {k : List It} {e e' : Env} {w w' ws w0 : World} {R : Ending → World → Prop} {n i m : Nat} {l : List Nat} {M0 : Nat → Prop} {H : List Chunk} {T : List Nat} {K : Env → World → Prop}
def gl (b : Nat) (cs : List Value) : Chunk :=
  ⟨[], fun w M => b < w.heap.size ∧ ¬ M b ∧ (∀ i u, cs[i]? = some u → w.cell? ⟨b, 0 + i, none⟩ = some u) ∧ ∃ t z, w.heap[b]? = some (.cells cs.toArray t z),
    fun h1 h2 h3 ⟨hb, hm, h, t, z, h4⟩ => ⟨Nat.lt_of_lt_of_le hb h1, fun h' => hm (h3 b hb h'), fun i u hu => (cell_same (h2 b hb (.inr hm))).trans (h i u hu), t, z, (h2 b hb (.inr hm)).trans h4⟩⟩
def arrSz (P : Program) (T : TypeId) : Option (Nat × Nat) := match P.underlying T with | some (.array n E) => (P.info? E).map fun i => (n, i.size) | _ => none
theorem run_idxArr {T : TypeId} {b o : Nat} {ix : Int} {len s : Nat} (hx : idxOf F n i e = some (T, .pointer (some ⟨b, o, none⟩), ix)) (hT : arrSz P T = some (len, s)) (h : inR ix len = true) :
    (execOp e.eval (opOf F.B n i)).run P w = .ok (.value (.pointer (some ⟨b, o + ix.toNat * s, none⟩))) w := by
  obtain ⟨h0, h1⟩ := inR_spec h
  unfold idxOf at hx
  cases hop : (opOf F.B n i).op <;> simp only [hop] at hx <;> first | (cases hx; done) | skip
  rename_i T' x y
  cases hy : e.eval y <;> simp only [hy] at hx <;> first | (cases hx; done) | skip
  simp only [Option.some.injEq, Prod.mk.injEq] at hx
  obtain ⟨rfl, hxv, rfl⟩ := hx
  unfold arrSz at hT
  cases hu : P.underlying T' with
  | none => simp [hu] at hT
  | some dd =>
    cases dd <;> simp only [hu] at hT <;> first | (cases hT; done) | skip
    rename_i nn E
    cases hi : P.info? E with
    | none => simp [hi] at hT
    | some inf =>
      simp only [hi, Option.map_some, Option.some.injEq, Prod.mk.injEq] at hT
      obtain ⟨rfl, rfl⟩ := hT
      unfold execOp
      simp [hop, hy, hxv, Instr.indexAt, asIntOf, run_underlying hu, Instr.sureAddr, h0, h1, sizeOf, typeInfo, hi, Addr.add_lit]
theorem run_loadTab {α : Type} [Inhabited α] (T0 : TypeId) {en : α → List Value} {tab : List α} {b o q sz : Nat} {j : Int} {v : Value} (hen : ∀ x, (en x).length = sz) (hc : ∀ i u, (tab.flatMap en)[i]? = some u → w'.cell? ⟨b, 0 + i, none⟩ = some u)
    (hl : loadOf F n i e = some (T0, ⟨b, o, none⟩)) (ho : o = j.toNat * sz + q) (hr : inR j tab.length = true) (hv : ∀ rest, loadV P T0 ((en (rdD tab j) ++ rest).drop q) = some v) : (execOp e.eval (opOf F.B n i)).run P w' = .ok (.value v) w' := by
  obtain ⟨rest, ht⟩ := tab_at hen hr
  refine run_load T0 hl (cs := (en (rdD tab j) ++ rest).drop q) (fun i u hu => ?_) (hv rest)
  rw [← ht, List.drop_drop, List.getElem?_drop] at hu
  have := hc _ u hu
  subst ho
  simpa [Nat.add_assoc] using this
theorem OpE.loadTab (d c : Nat) {α : Type} [Inhabited α] (T0 : TypeId) (en : α → List Value) (tab : List α) (q sz : Nat) (j : Int) (v : Value) {b o : Nat} (hH : Holds M0 w0 w H) (ho : opOk F n i e d = true) (hi : H[c]? = some (gl b (tab.flatMap en))) (hen : ∀ x, (en x).length = sz)
    (hl : loadOf F n i e = some (T0, ⟨b, o, none⟩)) (hoq : o = j.toNat * sz + q) (hr : inR j tab.length = true) (hv : ∀ rest, loadV P T0 ((en (rdD tab j) ++ rest).drop q) = some v) (hn : K ((d, v) :: e) w) : OpE F n i e w K :=
  OpE.run d ho (run_loadTab T0 hen (hH.get c hi).2.2.1 hl hoq hr hv) hn
theorem AnyE.loadTab (i d c : Nat) {α : Type} [Inhabited α] (T0 : TypeId) (en : α → List Value) (tab : List α) (q sz : Nat) (j : Int) (v : Value) (is : List Nat) {b o : Nat} (h : Holds M0 w0 ws H) (hT : mines (Eng.pick H is) = T) (ho : takeOk F n l i d e = true) (hS : Kp T ws w)
    (hi : H[c]? = some (gl b (tab.flatMap en))) (hc : is.elem c = false) (hen : ∀ x, (en x).length = sz) (hl : loadOf F n i e = some (T0, ⟨b, o, none⟩)) (hoq : o = j.toNat * sz + q) (hr : inR j tab.length = true)
    (hv : ∀ rest, loadV P T0 ((en (rdD tab j) ++ rest).drop q) = some v) (hn : AnyE F n k (Kp T ws) m (i :: l) ((d, v) :: e) w R) : AnyE F n k (Kp T ws) (m + 1) l e w R :=
  AnyE.take i d v Kp.sup ho hS (fun w hk => .inl (run_loadTab T0 hen (h.atI is hT hk c hi hc).2.2.1 hl hoq hr hv)) hn
def idxVOf (F : Fun P) (n i : Nat) (e : Env) : Option (TypeId × Value × Int) :=
  match (opOf F.B n i).op with
  | .index T x ix => (match e.eval ix with | .int _ j => some (T, e.eval x, j) | _ => none)
  | _ => none
def partOf (P : Program) (T : TypeId) (sz : Nat) (cs : List Value) : Option Value :=
  match P.underlying T with
  | some (.array _ E) => (match P.underlying E with
    | some (.struct _) => some (.agg (cs.take sz).toArray)
    | some (.array _ _) => some (.agg (cs.take sz).toArray)
    | some _ => cs.head?
    | none => none)
  | _ => none
theorem run_indexTab {α : Type} [Inhabited α] {T0 : TypeId} {en : α → List Value} {tab : List α} {len sz : Nat} {j : Int} {v : Value} (hen : ∀ x, (en x).length = sz) (hx : idxVOf F n i e = some (T0, .agg (tab.flatMap en).toArray, j)) (hT : arrSz P T0 = some (len, sz)) (hl : tab.length = len)
    (hr : inR j tab.length = true) (hv : ∀ rest, partOf P T0 sz (en (rdD tab j) ++ rest) = some v) : (execOp e.eval (opOf F.B n i)).run P w = .ok (.value v) w := by
  obtain ⟨h0, h1⟩ := inR_spec hr
  obtain ⟨rest, ht⟩ := tab_at hen hr
  have hv := hv rest
  unfold idxVOf at hx
  cases hop : (opOf F.B n i).op <;> simp only [hop] at hx <;> first | (cases hx; done) | skip
  rename_i T' x y
  cases hy : e.eval y <;> simp only [hy] at hx <;> first | (cases hx; done) | skip
  rename_i kk jj
  simp only [Option.some.injEq, Prod.mk.injEq] at hx
  obtain ⟨rfl, hxv, rfl⟩ := hx
  unfold arrSz at hT
  unfold partOf at hv
  cases hu : P.underlying T' with
  | none => simp [hu] at hT
  | some dd =>
    cases dd <;> simp only [hu] at hT hv <;> first | (cases hT; done) | skip
    rename_i nn E
    cases hi : P.info? E with
    | none => simp [hi] at hT
    | some inf =>
      simp only [hi, Option.map_some, Option.some.injEq, Prod.mk.injEq] at hT
      obtain ⟨rfl, rfl⟩ := hT
      have h1' : jj < (nn : Int) := hl ▸ h1
      have hpart : (part E (tab.flatMap en).toArray (Int.toNat jj * inf.size)).run P w = .ok v w := by
        cases hE : P.underlying E with
        | none => simp [hE] at hv
        | some de =>
          have hrE := run_underlying (P := P) hE w
          cases de <;> simp only [hE] at hv
          case struct fs =>
            have hv := Option.some.inj hv
            subst hv
            simp only [part, isAgg, Sem.run_bind, hrE, Result.andThen_ok, Sem.run_pure, if_true, sizeOf, typeInfo, hi, run_program, List.extract_toArray]
            rw [← ht]
            simp [List.extract_eq_take_drop]
          case array n' t' =>
            have hv := Option.some.inj hv
            subst hv
            simp only [part, isAgg, Sem.run_bind, hrE, Result.andThen_ok, Sem.run_pure, if_true, sizeOf, typeInfo, hi, run_program, List.extract_toArray]
            rw [← ht]
            simp [List.extract_eq_take_drop]
          all_goals
            have hg : (tab.flatMap en)[Int.toNat jj * inf.size]? = some v := by
              rw [← ht, List.head?_drop] at hv
              exact hv
            simp [part, isAgg, hrE, hg]
      unfold execOp
      simp [hop, hy, hxv, Instr.index, asIntOf, run_underlying hu, h0, h1', sizeOf, typeInfo, hi, hpart]
end
#print axioms run_indexTab
end Go.Eng
