/- The engine's operations on memory: one theorem a kind of operation, what is held behind it told as a list. -/
import Derived.Test.YtbcepghanbkncaaGreatDoorEngMem
set_option linter.unusedVariables false
set_option linter.unusedSimpArgs false
namespace Go.Eng
open Go.RowKit

def rdD {α : Type} [Inhabited α] (xs : List α) (i : Int) : α := xs.getD i.toNat default
def inR (i : Int) (n : Nat) : Bool := decide (0 ≤ i) && decide (i < (n : Int))
theorem inR_spec {i : Int} {n : Nat} (h : inR i n = true) : 0 ≤ i ∧ i < (n : Int) := by simpa [inR] using h

section
variable {P : Program} {F : Fun P} {k : List It} {e e' : Env} {w w' w0 : World} {R : Ending → World → Prop} {n i : Nat} {M0 : Nat → Prop} {H : List Chunk} {K : Env → World → Prop}

def loadV (P : Program) (T : TypeId) (cs : List Value) : Option Value :=
  match P.underlying T with
  | some (.struct _) => (match P.info? T with | some inf => cond (Nat.ble inf.size cs.length) (some (.agg (cs.take inf.size).toArray)) none | none => none)
  | some (.array _ _) => (match P.info? T with | some inf => cond (Nat.ble inf.size cs.length) (some (.agg (cs.take inf.size).toArray)) none | none => none)
  | some _ => cs.head?
  | none => none
theorem run_loadV {T : TypeId} {b o : Nat} {cs : List Value} {v : Value} (hcs : ∀ j u, cs[j]? = some u → w.cell? ⟨b, o + j, none⟩ = some u) (h : loadV P T cs = some v) : (loadVar T ⟨b, o, none⟩).run P w = .ok v w := by
  have agg : ∀ (inf : TypeInfo), P.info? T = some inf → Nat.ble inf.size cs.length = true → (loadCells ⟨b, o, none⟩ inf.size).run P w = .ok (cs.take inf.size).toArray w := fun inf _ hle => by
    have hle := Nat.le_of_ble_eq_true hle
    have hl : (cs.take inf.size).length = inf.size := by simp; omega
    have := run_loadCells_list (P := P) w ⟨b, o, none⟩ (cs.take inf.size) (fun j u hu => by
      rw [Addr.add_lit]
      refine hcs j u ?_
      rw [List.getElem?_take] at hu
      split at hu
      · exact hu
      · cases hu)
    rwa [hl] at this
  unfold loadV at h
  cases hu : P.underlying T with
  | none => simp [hu] at h
  | some d =>
    have hund := run_underlying (P := P) hu w
    cases d <;> simp only [hu] at h
    case struct fs =>
      cases hi : P.info? T with
      | none => simp [hi] at h
      | some inf =>
        simp only [hi] at h
        cases hb : Nat.ble inf.size cs.length with
        | false => simp [hb] at h
        | true =>
          simp only [hb, cond_true, Option.some.injEq] at h
          subst h
          simp [loadVar, isAgg, hund, sizeOf, typeInfo, hi, agg inf hi hb]
    case array m t =>
      cases hi : P.info? T with
      | none => simp [hi] at h
      | some inf =>
        simp only [hi] at h
        cases hb : Nat.ble inf.size cs.length with
        | false => simp [hb] at h
        | true =>
          simp only [hb, cond_true, Option.some.injEq] at h
          subst h
          simp [loadVar, isAgg, hund, sizeOf, typeInfo, hi, agg inf hi hb]
    all_goals
      have h0 : w.cell? ⟨b, o, none⟩ = some v := by
        have := hcs 0 v (by simpa [List.head?_eq_getElem?] using h)
        simpa using this
      simp [loadVar, isAgg, hund, h0]

def loadOf (F : Fun P) (n i : Nat) (e : Env) : Option (TypeId × Addr) :=
  match (opOf F.B n i).op with
  | .load T a => (match e.eval a with | .pointer (some ad) => some (T, ad) | _ => none)
  | _ => none
theorem OpE.load (d : Nat) (T : TypeId) {b o : Nat} {cs : List Value} {v : Value} (ho : opOk F n i e d = true) (hl : loadOf F n i e = some (T, ⟨b, o, none⟩))
    (hcs : ∀ j u, cs[j]? = some u → w.cell? ⟨b, o + j, none⟩ = some u) (hv : loadV P T cs = some v) (hn : K ((d, v) :: e) w) : OpE F n i e w K := by
  refine OpE.run d ho ?_ hn
  unfold loadOf at hl
  cases hop : (opOf F.B n i).op <;> simp only [hop] at hl <;> first | (cases hl; done) | skip
  rename_i T' a
  cases ha : e.eval a <;> simp only [ha] at hl <;> first | (cases hl; done) | skip
  rename_i ad
  cases ad <;> simp only [Option.some.injEq, Prod.mk.injEq] at hl <;> first | (cases hl; done) | skip
  obtain ⟨rfl, rfl⟩ := hl
  have := run_loadV (P := P) (T := T') hcs hv
  unfold execOp
  simp [hop, ha, Instr.loadAt, Instr.sureAddr, this]
theorem box_cells {b : Nat} {t : TypeId} {cs : List Value} (h : w.heap[b]? = some (.cells cs.toArray t (0, 0))) (o : Nat) : ∀ j u, (cs.drop o)[j]? = some u → w.cell? ⟨b, o + j, none⟩ = some u := fun j u hu => by
  rw [List.getElem?_drop] at hu
  simp [World.cell?, h, hu]
theorem OpE.loadBox (d c : Nat) (T : TypeId) (b o : Nat) (v : Value) {t : TypeId} {cs : List Value} (hH : Holds M0 w0 w H) (ho : opOk F n i e d = true) (hl : loadOf F n i e = some (T, ⟨b, o, none⟩))
    (hi : H[c]? = some (Eng.box b t cs)) (hv : loadV P T (cs.drop o) = some v) (hn : K ((d, v) :: e) w) : OpE F n i e w K :=
  OpE.load d T ho hl (box_cells (hH.get c hi) o) hv hn
theorem OpE.loadCel (d c : Nat) (T : TypeId) (b o q : Nat) (v : Value) {cs : List Value} (hH : Holds M0 w0 w H) (ho : opOk F n i e d = true) (hl : loadOf F n i e = some (T, ⟨b, o + q, none⟩))
    (hi : H[c]? = some (cel b o cs)) (hv : loadV P T (cs.drop q) = some v) (hn : K ((d, v) :: e) w) : OpE F n i e w K :=
  OpE.load d T ho hl (fun j u hu => by
    rw [List.getElem?_drop] at hu
    rw [Nat.add_assoc]
    exact (hH.get c hi).2.2 _ u hu) hv hn
def Raw (w : World) (b o : Nat) (cs : List Value) : Prop := ∀ j u, cs[j]? = some u → w.cell? ⟨b, o + j, none⟩ = some u
theorem Raw.below {b o : Nat} {cs : List Value} (h : Raw w b o cs) (hb : Below w.heap.size w w') : Raw w' b o cs := fun j u hu => by
  have := h j u hu
  exact (cell_same (hb.block b (cell_lt this))).trans this
def boxOf (F : Fun P) (n i : Nat) (e : Env) : Option (TypeId × List Value) :=
  match (opOf F.B n i).op with
  | .box T x => some (T, (e.eval x).cells.toList)
  | .alloc T => (match (P.info? T).bind (·.zero) with | some z => some (T, z.cells.toList) | none => none)
  | _ => none
theorem OpE.box (d : Nat) (t : TypeId) (cs : List Value) (hH : Holds M0 w0 w H) (ho : opOk F n i e d = true) (hb : boxOf F n i e = some (t, cs))
    (hn : ∀ w' b, Holds M0 w0 w' (H ++ [Eng.box b t cs]) → Below w.heap.size w w' → w.heap.size ≤ b → K ((d, .pointer (some ⟨b, 0, none⟩)) :: e) w') : OpE F n i e w K := by
  have hbel : Below w.heap.size w (w.alloc (.cells cs.toArray t)) := (Below.refl _ _).alloc (Nat.le_refl _) _
  refine OpE.run d ho ?_ (hn (w.alloc (.cells cs.toArray t)) w.heap.size (hH.box t cs) hbel (Nat.le_refl _))
  unfold boxOf at hb
  unfold execOp
  cases hop : (opOf F.B n i).op <;> simp only [hop] at hb <;> first | (cases hb; done) | skip
  case box T x =>
    simp only [Option.some.injEq, Prod.mk.injEq] at hb
    obtain ⟨rfl, rfl⟩ := hb
    simp [Instr.box, newVar, newRow]
  case alloc T =>
    cases hi : P.info? T with
    | none => simp [hi] at hb
    | some inf =>
      simp only [hi, Option.bind_some] at hb
      cases hz : inf.zero with
      | none => simp [hz] at hb
      | some z =>
        simp only [hz, Option.some.injEq, Prod.mk.injEq] at hb
        obtain ⟨rfl, rfl⟩ := hb
        simp [Instr.alloc, zeroValue, typeInfo, hi, hz, newVar, newRow]

def storeOf (F : Fun P) (n i : Nat) (e : Env) : Option (TypeId × Addr × Value) :=
  match (opOf F.B n i).op with
  | .store T a x => (match e.eval a with | .pointer (some ad) => some (T, ad, e.eval x) | _ => none)
  | _ => none
def fitsV (P : Program) (T : TypeId) (v : Value) : Bool :=
  (match P.info? T with | some inf => Nat.beq v.cells.size inf.size | none => false) && v.cells.toList.all (·.oneCell')
def Kp (T : List Nat) (w w' : World) : Prop := w.heap.size ≤ w'.heap.size ∧ ∀ b, b < w.heap.size → b ∉ T → w'.heap[b]? = w.heap[b]?
theorem Kp.below {w w' : World} (h : Below w.heap.size w w') : Kp [] w w' := ⟨h.size, fun b hb _ => h.block b hb⟩
theorem Below.setRow {B : Nat} {w0 w : World} (h : Below B w0 w) {g : Nat} (hg : B ≤ g) (cs : Array Value) : Below B w0 (w.setRow g cs) :=
  h.trans ⟨rfl, rfl, rfl, by simp, fun k hk => setRow_other w g k cs (by omega)⟩
theorem run_storeV {T : TypeId} {b o : Nat} {t : TypeId} {cs : List Value} {v : Value} (h : w.heap[b]? = some (.cells cs.toArray t (0, 0))) (hf : fitsV P T v = true) (hl : o + v.cells.size ≤ cs.length) :
    (storeVar T ⟨b, o, none⟩ v).run P w = .ok () (w.setRow b (cs.take o ++ v.cells.toList ++ cs.drop (o + v.cells.size)).toArray) := by
  simp only [fitsV, Bool.and_eq_true] at hf
  have h1 : ∀ u ∈ v.cells.toList, u.oneCell' = true := fun u hu => List.all_eq_true.1 hf.2 u hu
  have hs := run_storeCells_at P b o t v.cells.toList 0 cs.toArray w h (by simpa using hl) h1
  cases hi : P.info? T with
  | none => simp [hi] at hf
  | some inf =>
    simp only [hi] at hf
    have hsz := Nat.eq_of_beq_eq_true hf.1
    simp [storeVar, sizeOf, typeInfo, hi, ← hsz]
    simpa using hs
theorem OpE.storeBox (c : Nat) (T : TypeId) (b o : Nat) (v : Value) {t : TypeId} {cs : List Value} (cs' : List Value) (hH : Holds M0 w0 w H) (ho : opOk0 F n i e = true) (hl : storeOf F n i e = some (T, ⟨b, o, none⟩, v))
    (hi : H[c]? = some (Eng.box b t cs)) (hf : fitsV P T v = true) (hle : Nat.ble (o + v.cells.size) cs.length = true) (hcs : cs.take o ++ v.cells.toList ++ cs.drop (o + v.cells.size) = cs')
    (hn : ∀ w', Holds M0 w0 w' (H.set c (Eng.box b t cs')) → Kp [b] w w' → K e w') : OpE F n i e w K := by
  have hblk : w.heap[b]? = some (.cells cs.toArray t (0, 0)) := hH.get c hi
  have hbm := hH.mine b (List.mem_flatMap.2 ⟨_, List.mem_of_getElem? hi, by simp [Eng.box]⟩)
  have hrow := setRow_heap w b cs.toArray cs'.toArray t (0, 0) hblk
  refine OpE.skip ho ?_ (hn (w.setRow b cs'.toArray) (hH.turn c hi (Below.setRow hH.below hbm.1 _) (by simp) (fun x _ hx => setRow_other w b x _ (by simpa [Eng.box] using hx)) (fun x hx => .inl (by simpa [Eng.box] using hx)) (by simp [Eng.box]) (fun _ => hrow)) ⟨by simp, fun x _ hx => setRow_other w b x _ (by simpa using hx)⟩)
  unfold storeOf at hl
  cases hop : (opOf F.B n i).op <;> simp only [hop] at hl <;> first | (cases hl; done) | skip
  rename_i T' a x
  cases ha : e.eval a <;> simp only [ha] at hl <;> first | (cases hl; done) | skip
  rename_i ad
  cases ad <;> simp only [Option.some.injEq, Prod.mk.injEq] at hl <;> first | (cases hl; done) | skip
  obtain ⟨rfl, rfl, rfl⟩ := hl
  have := run_storeV (P := P) hblk hf (Nat.le_of_ble_eq_true hle)
  rw [hcs] at this
  unfold execOp
  simp [hop, ha, Instr.storeAt, Instr.sureAddr, this]

def idxOf (F : Fun P) (n i : Nat) (e : Env) : Option (TypeId × Value × Int) :=
  match (opOf F.B n i).op with
  | .indexAddr T x ix => (match e.eval ix with | .int _ j => some (T, e.eval x, j) | _ => none)
  | _ => none
def elemSz (P : Program) (T : TypeId) : Option Nat := match P.underlying T with | some (.slice E) => (P.info? E).map (·.size) | _ => none
theorem run_idx {T : TypeId} {b o len cap : Nat} {ix : Int} {s : Nat} (hx : idxOf F n i e = some (T, .slice (some ⟨b, o, none⟩) len cap, ix)) (hT : elemSz P T = some s) (h0 : 0 ≤ ix) (h1 : ix < (len : Int)) :
    (execOp e.eval (opOf F.B n i)).run P w = .ok (.value (.pointer (some ⟨b, o + ix.toNat * s, none⟩))) w := by
  unfold idxOf at hx
  cases hop : (opOf F.B n i).op <;> simp only [hop] at hx <;> first | (cases hx; done) | skip
  rename_i T' x y
  cases hy : e.eval y <;> simp only [hy] at hx <;> first | (cases hx; done) | skip
  simp only [Option.some.injEq, Prod.mk.injEq] at hx
  obtain ⟨rfl, hxv, rfl⟩ := hx
  unfold elemSz at hT
  cases hu : P.underlying T' with
  | none => simp [hu] at hT
  | some dd =>
    cases dd <;> simp only [hu] at hT <;> first | (cases hT; done) | skip
    rename_i E
    cases hi : P.info? E with
    | none => simp [hi] at hT
    | some inf =>
      simp only [hi, Option.map_some, Option.some.injEq] at hT
      subst hT
      unfold execOp
      simp [hop, hy, hxv, Instr.indexAt, asIntOf, run_underlying hu, h0, h1, sizeOf, typeInfo, hi, Addr.add_lit]
theorem OpE.idxSl (d c : Nat) (T : TypeId) (ix : Int) {α : Type} [Inhabited α] {dd : Rp α} {v : Value} {xs : List α} (hH : Holds M0 w0 w H) (ho : opOk F n i e d = true) (hi : H[c]? = some (sl dd v xs))
    (hx : idxOf F n i e = some (T, v, ix)) (hT : elemSz P T = some dd.sz) (h : inR ix xs.length = true)
    (hn : ∀ b o cs, dd.K w (Mset M0 H) (rdD xs ix) cs → Holds M0 w0 w (H ++ [cel b o cs]) → K ((d, .pointer (some ⟨b, o, none⟩)) :: e) w) : OpE F n i e w K := by
  obtain ⟨h0, h1⟩ := inR_spec h
  obtain ⟨A, cp, rfl, hl, hc, hnn, hp⟩ : Sl dd w (Mset M0 H) v xs := hH.get c hi
  obtain ⟨b, o, rfl, hb, hM, hcs⟩ := hp (by omega)
  have hg : xs[ix.toNat]? = some (rdD xs ix) := by
    unfold rdD
    have : ix.toNat < xs.length := by omega
    simp [this]
  obtain ⟨cs, hk, hcell⟩ := hcs _ _ hg
  exact OpE.run d ho (run_idx hx hT h0 h1) (hn b (o + ix.toNat * dd.sz) cs hk (hH.add _ rfl ⟨hb, hM, hcell⟩))

def cutL {α : Type} (xs : List α) (lo hi : Int) : List α := (xs.take hi.toNat).drop lo.toNat
theorem Sl.cut {α : Type} {d : Rp α} {M : Nat → Prop} {A : Option Addr} {c : Nat} {xs : List α} {v : Value} (h : Sl d w M v xs) (hv : v = .slice A xs.length c) (lo hi : Nat) (h1 : lo ≤ hi) (h2 : hi ≤ xs.length) :
    Sl d w M (.slice (if c = lo then A else A.map (·.add (lo * d.sz))) (hi - lo) (c - lo)) ((xs.take hi).drop lo) := by
  obtain ⟨A', c', hv', hl, hc, hnn, hp⟩ := h
  rw [hv] at hv'
  simp only [Value.slice.injEq] at hv'
  obtain ⟨rfl, _, rfl⟩ := hv'
  have hlen : ((xs.take hi).drop lo).length = hi - lo := by simp; omega
  refine ⟨_, c - lo, by rw [hlen], by rw [hlen]; omega, by omega, fun hA => ?_, fun hpos => ?_⟩
  · have : A = none := by
      by_cases hcl : c = lo
      · rw [if_pos hcl] at hA; exact hA
      · rw [if_neg hcl] at hA; simpa using hA
    obtain ⟨hx, hc0⟩ := hnn this
    subst hx
    exact ⟨by simp, by omega⟩
  · rw [hlen] at hpos
    obtain ⟨b, o, rfl, hb, hM, hcs⟩ := hp (by omega)
    refine ⟨b, o + lo * d.sz, by rw [if_neg (by omega)]; simp [Addr.add_lit], hb, hM, fun j x hx => ?_⟩
    rw [List.getElem?_drop, List.getElem?_take] at hx
    split at hx
    · obtain ⟨cs, hk, hcell⟩ := hcs _ x hx
      refine ⟨cs, hk, fun i u hu => ?_⟩
      have := hcell i u hu
      rwa [show o + lo * d.sz + j * d.sz + i = o + (lo + j) * d.sz + i by rw [Nat.add_mul]; omega]
    · cases hx
def cutOf (F : Fun P) (n i : Nat) (e : Env) : Option (TypeId × Value × Option Int × Option Int) :=
  match (opOf F.B n i).op with
  | .slice T x lo hi none =>
    (match (match lo with | none => some none | some y => (match e.eval y with | .int _ j => some (some j) | _ => none) : Option (Option Int)),
           (match hi with | none => some none | some y => (match e.eval y with | .int _ j => some (some j) | _ => none) : Option (Option Int)) with
     | some l, some h => some (T, e.eval x, l, h)
     | _, _ => none)
  | _ => none
theorem run_cut {T : TypeId} {A : Option Addr} {len cap : Nat} {lo hi : Option Int} {s : Nat} (hx : cutOf F n i e = some (T, .slice A len cap, lo, hi)) (hT : elemSz P T = some s)
    (h0 : 0 ≤ lo.getD 0) (h1 : lo.getD 0 ≤ hi.getD len) (h2 : hi.getD len ≤ (len : Int)) (hc : len ≤ cap) :
    (execOp e.eval (opOf F.B n i)).run P w = .ok (.value (.slice (if cap = (lo.getD 0).toNat then A else A.map (·.add ((lo.getD 0).toNat * s))) ((hi.getD len).toNat - (lo.getD 0).toNat) (cap - (lo.getD 0).toNat))) w := by
  unfold cutOf at hx
  cases hop : (opOf F.B n i).op <;> simp only [hop] at hx <;> first | (cases hx; done) | skip
  rename_i T' x l h m
  cases m with
  | some m => simp at hx
  | none =>
    simp only at hx
    unfold elemSz at hT
    have key : ∀ (l' h' : Option Value), (∀ v, l' = some v → ∃ k, v = .int k (lo.getD 0)) → (l' = none → lo = none) → (∀ v, h' = some v → ∃ k, v = .int k (hi.getD len)) → (h' = none → hi = none) →
        (Instr.sliceAt T' (.slice A len cap) l' h' none).run P w = .ok (.slice (if cap = (lo.getD 0).toNat then A else A.map (·.add ((lo.getD 0).toNat * s))) ((hi.getD len).toNat - (lo.getD 0).toNat) (cap - (lo.getD 0).toNat)) w ∨ T' ≠ T := by
      intro l' h' hl1 hl2 hh1 hh2
      by_cases hTT : T' = T
      · subst hTT
        left
        cases hu : P.underlying T' with
        | none => simp [hu] at hT
        | some dd =>
          cases dd <;> simp only [hu] at hT <;> first | (cases hT; done) | skip
          rename_i E
          cases hi' : P.info? E with
          | none => simp [hi'] at hT
          | some inf =>
            simp only [hi', Option.map_some, Option.some.injEq] at hT
            subst hT
            have hcap : hi.getD len ≤ (cap : Int) := by omega
            have hnn : 0 ≤ hi.getD len := by omega
            have e1 : ((hi.getD len).toNat : Int) = hi.getD len := Int.toNat_of_nonneg hnn
            cases l' with
            | none =>
              have := hl2 rfl
              subst this
              cases h' with
              | none =>
                have := hh2 rfl
                subst this
                simp [Instr.sliceAt, Instr.slice, run_underlying hu, Instr.sliceBounds, sizeOf, typeInfo, hi']
              | some v =>
                obtain ⟨kk, rfl⟩ := hh1 v rfl
                simp [Instr.sliceAt, Instr.slice, run_underlying hu, Instr.sliceBounds, Instr.sliceBound, asIntOf, sizeOf, typeInfo, hi', hcap, hnn]
            | some v0 =>
              obtain ⟨k0, rfl⟩ := hl1 v0 rfl
              cases h' with
              | none =>
                have := hh2 rfl
                subst this
                simp at h1
                simp [Instr.sliceAt, Instr.slice, run_underlying hu, Instr.sliceBounds, Instr.sliceBound, asIntOf, sizeOf, typeInfo, hi', h0, h1]
              | some v =>
                obtain ⟨kk, rfl⟩ := hh1 v rfl
                simp [Instr.sliceAt, Instr.slice, run_underlying hu, Instr.sliceBounds, Instr.sliceBound, asIntOf, sizeOf, typeInfo, hi', hcap, hnn, h0, h1, e1]
      · exact .inr hTT
    unfold execOp
    simp only [hop]
    cases l with
    | none =>
      cases h with
      | none =>
        simp only [Option.some.injEq, Prod.mk.injEq] at hx
        obtain ⟨rfl, hv, rfl, rfl⟩ := hx
        have := (key none none (by simp) (by simp) (by simp) (by simp)).resolve_right (by simp)
        simp [hv, this]
      | some h =>
        cases hh : e.eval h <;> simp only [hh] at hx <;> first | (cases hx; done) | skip
        rename_i kk j
        simp only [Option.some.injEq, Prod.mk.injEq] at hx
        obtain ⟨rfl, hv, rfl, rfl⟩ := hx
        have := (key none (some (.int kk j)) (by simp) (by simp) (by simp) (by simp)).resolve_right (by simp)
        simp [hv, hh, this]
    | some l =>
      cases hl : e.eval l <;> simp only [hl] at hx <;> first | (cases hx; done) | skip
      rename_i k0 j0
      cases h with
      | none =>
        simp only [Option.some.injEq, Prod.mk.injEq] at hx
        obtain ⟨rfl, hv, rfl, rfl⟩ := hx
        have := (key (some (.int k0 j0)) none (by simp) (by simp) (by simp) (by simp)).resolve_right (by simp)
        simp [hv, hl, this]
      | some h =>
        cases hh : e.eval h <;> simp only [hh] at hx <;> first | (cases hx; done) | skip
        rename_i kk j
        simp only [Option.some.injEq, Prod.mk.injEq] at hx
        obtain ⟨rfl, hv, rfl, rfl⟩ := hx
        have := (key (some (.int k0 j0)) (some (.int kk j)) (by simp) (by simp) (by simp) (by simp)).resolve_right (by simp)
        simp [hv, hl, hh, this]
def cutR (lo hi : Int) (n : Nat) : Bool := decide (0 ≤ lo) && decide (lo ≤ hi) && decide (hi ≤ (n : Int))
theorem OpE.cutSl (d c : Nat) (T : TypeId) (lo hi : Option Int) {α : Type} {dd : Rp α} {v : Value} {xs : List α} (hH : Holds M0 w0 w H) (ho : opOk F n i e d = true) (hi' : H[c]? = some (sl dd v xs))
    (hx : cutOf F n i e = some (T, v, lo, hi)) (hT : elemSz P T = some dd.sz) (h : cutR (lo.getD 0) (hi.getD xs.length) xs.length = true)
    (hn : ∀ A cp, Holds M0 w0 w (H ++ [sl dd (.slice A (cutL xs (lo.getD 0) (hi.getD xs.length)).length cp) (cutL xs (lo.getD 0) (hi.getD xs.length))]) →
      K ((d, .slice A (cutL xs (lo.getD 0) (hi.getD xs.length)).length cp) :: e) w) : OpE F n i e w K := by
  simp only [cutR, Bool.and_eq_true, decide_eq_true_eq] at h
  obtain ⟨⟨h0, h1⟩, h2⟩ := h
  have hsl : Sl dd w (Mset M0 H) v xs := hH.get c hi'
  obtain ⟨A, cp, hv, hl, hc, hnn, hp⟩ := id hsl
  have hcut := hsl.cut hv (lo.getD 0).toNat (hi.getD xs.length).toNat (by omega) (by omega)
  have hlen : (cutL xs (lo.getD 0) (hi.getD xs.length)).length = (hi.getD xs.length).toNat - (lo.getD 0).toNat := by simp [cutL]; omega
  rw [hv] at hx
  have hrun := run_cut (w := w) hx hT h0 h1 h2 hl
  rw [← hlen] at hrun hcut
  exact OpE.run d ho hrun (hn _ _ (hH.addSl dd _ _ hcut))
end
theorem of_cond {α : Type} {c : Bool} {a b : Option α} {r : α} (h : cond c a b = some r) : (c = true ∧ a = some r) ∨ (c = false ∧ b = some r) := by
  cases c
  · exact .inr ⟨rfl, h⟩
  · exact .inl ⟨rfl, h⟩
theorem of_cond0 {α : Type} {c : Bool} {a : Option α} {r : α} (h : cond c a none = some r) : c = true ∧ a = some r := by
  cases c
  · cases h
  · exact ⟨rfl, h⟩
theorem of_bind {α β : Type} {a : Option α} {f : α → Option β} {r : β} (h : a.bind f = some r) : ∃ x, a = some x ∧ f x = some r := Option.bind_eq_some_iff.mp h

section
variable {P : Program} {F : Fun P} {k : List It} {e e' : Env} {w w' w0 : World} {R : Ending → World → Prop} {n i : Nat} {M0 : Nat → Prop} {H : List Chunk} {K : Env → World → Prop}
theorem Holds.old' (h : Holds M0 w0 w H) : ∀ b, Mset M0 H b → b < w.heap.size := fun _ hb => Mset.lt h hb

theorem Env.fix {N t : Nat} {ds : List Nat} {e : Env} {a : Act} {v v' : Value} (ha : Agree N ds e a) (hh : e.has t = true) (hv : e.get t = v) (hc : v = v') : Agree N ds ((t, v') :: e) a :=
  ha.mono fun u hu => by
    simp only [Env.has, Env.get] at hu ⊢
    cases hb : Nat.beq t u with
    | true => have := Nat.eq_of_beq_eq_true hb; subst this; simp only [cond_true]; exact ⟨hh, by rw [hv, hc]⟩
    | false => simp only [hb, cond_false] at hu ⊢; exact ⟨hu, trivial⟩
theorem RegI.fix (t : Nat) {c : Bool} (b : Bool) (hc : c = b) (hh : e.has t = true) (hv : e.get t = .bool c) (hn : RegI F n k i ((t, .bool b) :: e) w R) : RegI F n k i e w R :=
  fun a ha => hn a (Env.fix ha hh hv (by rw [hc]))
theorem RunsI.fix {todo : List It} (t : Nat) {c : Bool} (b : Bool) (hc : c = b) (hh : e.has t = true) (hv : e.get t = .bool c) (hn : RunsI F todo ((t, .bool b) :: e) w R) : RunsI F todo e w R :=
  fun a ha => hn a (Env.fix ha hh hv (by rw [hc]))
theorem RegI.say (t : Nat) {v : Value} (v' : Value) (hc : v = v') (hh : e.has t = true) (hv : e.get t = v) (hn : RegI F n k i ((t, v') :: e) w R) : RegI F n k i e w R :=
  fun a ha => hn a (Env.fix ha hh hv hc)
theorem RegI.only (live : List Nat) (e' : Env) (hl : live.all e.has = true) (he : e.only live = e') (hn : RegI F n k i e' w R) : RegI F n k i e w R :=
  fun a ha => hn a (by subst he; exact ha.mono (Env.only_has e live (fun t ht => List.all_eq_true.1 hl t ht)))
theorem OpE.enter (d : Nat) (ho : opOk F n i e d = true) (G : Fun P) (g : FuncId) (hg : G.f = g) (args : List Value) (hle : Nat.ble args.length G.N = true) (hr : (execOp e.eval (opOf F.B n i)).run P w = .ok (.enter g args.toArray) w)
    (h : RunsI G [.c 0] (argEnv 0 args) w (cont K d e)) (hro : G.ro = none := by rfl) (hds : G.ds = [] := by rfl) : OpE F n i e w K :=
  OpE.call d ho g args.toArray hr (calls_of G hg args hle h hro hds)
theorem Holds.addOwnNil {α : Type} (h : Holds M0 w0 w H) (d : Rp α) (t : TypeId) : Holds M0 w0 w (H ++ [own d t (.slice none 0 0) []]) :=
  h.add _ rfl ⟨[], World.ownsRow_nil w 0 t d.sz, rfl⟩
theorem own_form {α : Type} {d : Rp α} {t : TypeId} {v : Value} {xs : List α} {M : Nat → Prop} (h : (own d t v xs).ok w M) : ∃ A c, v = .slice A xs.length c := by
  obtain ⟨cells, ho, _⟩ := h
  rcases ho.2 with ⟨hv, h0⟩ | ⟨g, cap, cur, hv, _⟩
  · exact ⟨none, 0, by rw [hv, h0]⟩
  · exact ⟨_, _, hv⟩
theorem own_sl {α : Type} {d : Rp α} {t : TypeId} {v : Value} {xs : List α} {M M' : Nat → Prop} (h : (own d t v xs).ok w M) (hm : ∀ b, b < w.heap.size → M' b → M b) (hg : ∀ b, v.ownBlock = some b → ¬ M' b) : Sl d w M' v xs := by
  obtain ⟨cells, ho, hc⟩ := h
  rcases ho.2 with ⟨hv, h0⟩ | ⟨g, cap, cur, hv, _, hgb, hl, hcm, hcs, htk⟩
  · have hx : xs = [] := List.eq_nil_of_length_eq_zero h0
    subst hx
    rw [hv]
    exact Sl.nil d w M'
  · refine ⟨_, cap, hv, hl, hcm, (fun h => by cases h), fun hp => ⟨g, 0, rfl, (Array.getElem?_eq_some_iff.1 hgb).1, hg g (by rw [hv]; rfl), fun j x hx => ?_⟩⟩
    obtain ⟨c, hk, hget⟩ := hc.get j x hx
    refine ⟨c, d.keep (Nat.le_refl _) (fun _ _ _ => rfl) hm hk, fun i u hu => ?_⟩
    have h1 := hget i u hu
    have h2 := ho.cells (g := g) (by rw [hv]; rfl) _ u h1
    rw [Addr.add_lit] at h2
    simpa [Nat.add_assoc] using h2
theorem Holds.ownSl {α : Type} (h : Holds M0 w0 w H) (c : Nat) {d : Rp α} {t : TypeId} {v : Value} {xs : List α} (hi : H[c]? = some (own d t v xs)) : Sl d w (fun _ => False) v xs :=
  own_sl (h.get c hi) (fun _ _ hf => hf.elim) (fun _ _ hf => hf)
theorem Holds.slAny {α : Type} (h : Holds M0 w0 w H) (c : Nat) {d : Rp α} {v : Value} {xs : List α} (hi : H[c]? = some (sl d v xs)) : Sl d w (fun _ => False) v xs :=
  (show Sl d w _ v xs from h.get c hi).mono (fun _ _ hf => hf.elim)
theorem Holds.release {α : Type} (h : Holds M0 w0 w H) (c : Nat) {d : Rp α} {t : TypeId} {v : Value} {xs : List α} (hi : H[c]? = some (own d t v xs)) : Holds M0 w0 w (H.set c (sl d v xs)) := by
  refine h.turn c hi h.below (Nat.le_refl _) (fun _ _ _ => rfl) (fun b hb => by simp [sl] at hb) (by simp [sl]) (fun hM => ?_)
  refine own_sl (h.get c hi) hM (fun b hb hm => ?_)
  have hbm : b ∈ (own d t v xs).mine := by simp [own, hb]
  rcases hm with hm | hm
  · have h1 := h.mine b (List.mem_flatMap.2 ⟨_, List.mem_of_getElem? hi, hbm⟩)
    have := h.old b hm
    omega
  · obtain ⟨x, hx, hbx⟩ := List.mem_flatMap.1 hm
    obtain ⟨j, hj⟩ := List.mem_iff_getElem?.1 hx
    by_cases hjc : c = j
    · subst hjc
      rw [List.getElem?_set_self (List.getElem?_eq_some_iff.1 hi).1] at hj
      cases hj
      simp [sl] at hbx
    · rw [List.getElem?_set_ne hjc] at hj
      exact hjc (nodup_at h.nodup hi hj hbm hbx)
theorem Holds.boxOwn {α : Type} (h : Holds M0 w0 w H) (c : Nat) {b : Nat} {t : TypeId} {cs : List Value} (hi : H[c]? = some (Eng.box b t cs)) (d : Rp α) (xs : List α) (hc : Cells d w (Mset M0 H) xs cs) (hl : xs.length ≤ maxLen) :
    Holds M0 w0 w (H.set c (own d t (.slice (some ⟨b, 0, none⟩) xs.length xs.length) xs)) := by
  refine h.turn c hi h.below (Nat.le_refl _) (fun _ _ _ => rfl) (fun x hx => .inl (by simpa [own, Eng.box, Value.ownBlock] using hx)) (by simp [own, Value.ownBlock]) (fun hM => ?_)
  refine ⟨cs, ⟨hc.len, .inr ⟨b, _, _, rfl, Nat.zero_le _, h.get c hi, Nat.le_refl _, hl, by simpa using hc.len, ?_⟩⟩, hc.keep (Nat.le_refl _) (fun _ _ _ => rfl) hM⟩
  rw [← hc.len]
  simp
theorem cells_int (k : IntKind) (w : World) (M : Nat → Prop) : ∀ xs : List Int, Cells (Rp.int k) w M xs (xs.map (Value.int k))
  | [] => rfl
  | x :: xs => ⟨[.int k x], _, rfl, rfl, cells_int k w M xs⟩
theorem cells_str (w : World) (M : Nat → Prop) : ∀ xs : List ByteArray, Cells Rp.str w M xs (xs.map Value.string)
  | [] => rfl
  | x :: xs => ⟨[.string x], _, rfl, rfl, cells_str w M xs⟩

theorem run_append_at {t ty E : TypeId} {inf : TypeInfo} {z : Value} {size : Nat} (ht : P.underlying t = some (.slice E)) (hi : P.info? E = some inf) (hz : inf.zero = some z) (hs : inf.size = size) (hzs : z.cells.size = size)
    {v : Value} {n : Nat} {xs : List Value} (ho : w.ownsRow 0 E size v n xs) {a : Addr} {m c : Nat} {news : List Value} (hl : news.length = m * size) (hnews : ∀ j u, news[j]? = some u → w.cell? (a.add j) = some u) (h1 : ∀ u ∈ news, u.oneCell' = true)
    (hm : 0 < m) (h63 : n + m ≤ maxLen) (hb : (n + m) * inf.bytes ≤ 140737488355328) :
    ∃ v' w', (Builtin.append_ #[t, t] ty #[v, .slice (some a) m c]).run P w = .ok v' w' ∧ w'.ownsRow 0 E size v' (n + m) (xs ++ news) ∧ w.grownBy w' v.ownBlock ∧
      (∀ b, v'.ownBlock = some b → v.ownBlock = some b ∨ (w.heap.size ≤ b ∧ b < w'.heap.size)) := by
  subst hs
  have hlen : (xs ++ news).length = (n + m) * inf.size := by rw [List.length_append, ho.1, hl, Nat.add_mul]
  have h63' : ((n + m : Nat) : Int) ≤ 9223372036854775807 := by simp only [maxLen] at h63; omega
  have new : ∀ (old : Nat) (cells : Array Value), cells = xs.toArray ++ news.toArray ++ Builtin.zeroCells z.cells (grownCap w (n + m) old E - (n + m)) →
      (w.drew.alloc (.cells cells E)).ownsRow 0 E inf.size (.slice (some ⟨w.heap.size, 0, none⟩) (n + m) (grownCap w (n + m) old E)) (n + m) (xs ++ news) ∧ w.grownBy (w.drew.alloc (.cells cells E)) v.ownBlock := by
    intro old cells hc
    have hge := grownCap_ge w (n + m) old E
    refine ⟨⟨hlen, .inr ⟨w.heap.size, _, cells, rfl, Nat.zero_le _, alloc_new w.drew _, hge, grownCap_le_maxLen w (n + m) old E h63, ?_, ?_⟩⟩, ⟨rfl, rfl, rfl, by simp, fun k hk _ => alloc_old w.drew _ hk⟩⟩
    · subst hc
      simp only [Array.size_append, List.size_toArray, Builtin.zeroCells, Array.size_map, Array.size_range, hzs, ho.1, hl, ← Nat.add_mul]
      congr 1
      omega
    · subst hc
      simp only [Array.toList_append, List.append_assoc]
      rw [← List.append_assoc, ← hlen]
      exact List.take_left
  rcases ho.2 with ⟨rfl, rfl⟩ | ⟨g, cap, cur, rfl, _, hg, hnc, hcm, hcs, htake⟩
  · have hx : xs = [] := List.eq_nil_of_length_eq_zero (by simpa using ho.1)
    subst hx
    have hr := run_append_nil (P := P) w t ty E inf z ht hi hz a m c news hl hnews hm (by simpa using h63') (by simp only [Nat.zero_add] at hb; omega)
    have hn := new 0 _ rfl
    simp only [Nat.zero_add, List.nil_append, Array.empty_append] at hn ⊢
    refine ⟨_, _, hr, hn.1, hn.2, fun b hbb => .inr ?_⟩
    simp [Value.ownBlock] at hbb
    subst hbb
    simp
  · by_cases hroom : n + m ≤ cap
    · have hfit : n * inf.size + news.length ≤ cur.size := by rw [hl, hcs, ← Nat.add_mul]; exact Nat.mul_le_mul_right _ hroom
      have hr := run_append_room (P := P) w t ty E inf ht hi g n cap cur hg a m c news hl hnews h1 hroom hfit
      refine ⟨_, _, hr, ⟨hlen, .inr ⟨g, cap, _, rfl, Nat.zero_le _, setRow_heap w g cur _ E _ hg, hroom, hcm, ?_, ?_⟩⟩, ⟨rfl, rfl, rfl, by simp, fun k _ hk => setRow_other w g k _ (fun e => hk (by simp [Value.ownBlock, e]))⟩, fun b hbb => .inl (by simpa [Value.ownBlock] using hbb)⟩
      · simp only [List.size_toArray, List.length_append, List.length_take, List.length_drop, Array.length_toList]
        omega
      · rw [htake, ← hlen]
        exact List.take_left
    · have hr := run_append_grow (P := P) w t ty E inf z ht hi hz ⟨g, 0, none⟩ n cap xs ho.1 (ho.cells (g := g) rfl) a m c news hl hnews (by omega) h63' (growslice_fits (by omega) hb)
      have hn := new cap _ rfl
      refine ⟨_, _, hr, hn.1, hn.2, fun b hbb => .inr ?_⟩
      simp [Value.ownBlock] at hbb
      subst hbb
      simp
def appendOf (F : Fun P) (n i : Nat) (e : Env) : Option (TypeId × Value × Value) :=
  match (opOf F.B n i).op with
  | .call { callee := .builtin .append, args := ⟨[s, x]⟩, argTypes := ⟨[t, t']⟩ } => cond (Nat.beq t t') (some (t, e.eval s, e.eval x)) none
  | _ => none
def elemOf' (P : Program) (T : TypeId) : Option (TypeId × Nat × Nat) :=
  match P.underlying T with
  | some (.slice E) => (match P.info? E with
    | some inf => (match inf.zero with | some z => cond (Nat.beq z.cells.size inf.size) (some (E, inf.size, inf.bytes)) none | none => none)
    | none => none)
  | _ => none
theorem elemOf_spec {T E : TypeId} {s y : Nat} (h : elemOf' P T = some (E, s, y)) : P.underlying T = some (.slice E) ∧ ∃ inf z, P.info? E = some inf ∧ inf.zero = some z ∧ inf.size = s ∧ inf.bytes = y ∧ z.cells.size = s := by
  unfold elemOf' at h
  cases hu : P.underlying T with
  | none => simp [hu] at h
  | some dd =>
    cases dd <;> simp only [hu] at h <;> first | (cases h; done) | skip
    rename_i E'
    cases hi : P.info? E' with
    | none => simp [hi] at h
    | some inf =>
      simp only [hi] at h
      cases hz : inf.zero with
      | none => simp [hz] at h
      | some z =>
        simp only [hz] at h
        cases hb : Nat.beq z.cells.size inf.size with
        | false => simp [hb] at h
        | true =>
          simp only [hb, cond_true, Option.some.injEq, Prod.mk.injEq] at h
          obtain ⟨rfl, rfl, rfl⟩ := h
          exact ⟨rfl, inf, z, hi, hz, rfl, rfl, Nat.eq_of_beq_eq_true hb⟩
def mayBe (n bytes : Nat) : Bool := Nat.ble n 9223372036854775807 && Nat.ble (n * bytes) 140737488355328
theorem mayBe_spec {n y : Nat} (h : mayBe n y = true) : n ≤ maxLen ∧ n * y ≤ 140737488355328 := by
  simp only [mayBe, Bool.and_eq_true] at h
  exact ⟨by have := Nat.le_of_ble_eq_true h.1; simp only [maxLen]; omega, Nat.le_of_ble_eq_true h.2⟩
theorem Holds.appended {α : Type} (hH : Holds M0 w0 w H) (c : Nat) {d : Rp α} {E : TypeId} {v v' : Value} {xs ys : List α} {cells news : List Value} (hi : H[c]? = some (own d E v xs)) (hc : Cells d w (Mset M0 H) xs cells) (hn : Cells d w (Mset M0 H) ys news)
    (ho : w'.ownsRow 0 E d.sz v' (xs.length + ys.length) (cells ++ news)) (hg : w.grownBy w' v.ownBlock) (hb : ∀ b, v'.ownBlock = some b → v.ownBlock = some b ∨ (w.heap.size ≤ b ∧ b < w'.heap.size)) :
    Holds M0 w0 w' (H.set c (own d E v' (xs ++ ys))) := by
  have hmine : ∀ b, v.ownBlock = some b → w0.heap.size ≤ b := fun b hb => (hH.mine b (List.mem_flatMap.2 ⟨_, List.mem_of_getElem? hi, by simp [own, hb]⟩)).1
  refine hH.turn c hi (hH.below.grown hg hH.below.size hmine) hg.size (fun b hlt hbn => hg.block b hlt (fun e => hbn (by simp [own, ← e]))) (fun b hbb => ?_) ?_ (fun hM => ⟨cells ++ news, by rw [List.length_append]; exact ho, ?_⟩)
  · have : v'.ownBlock = some b := by simpa [own] using hbb
    rcases hb b this with h | h
    · exact .inl (by simp [own, h])
    · exact .inr h
  · cases hv : v'.ownBlock <;> simp [own, hv]
  · refine (hc.append hn).keep hg.size (fun b hlt hbm => hg.block b hlt (fun e => hbm (.inr (List.mem_flatMap.2 ⟨_, List.mem_of_getElem? hi, by simp [own, ← e]⟩)))) hM
theorem OpE.appendBoxN (dst c c2 : Nat) (T E : TypeId) (y : Nat) {α : Type} {d : Rp α} {v : Value} {xs : List α} {b : Nat} {t2 : TypeId} {cs : List Value} (ys : List α) (m : Nat) (hH : Holds M0 w0 w H) (ho : opOk F n i e dst = true)
    (hx : appendOf F n i e = some (T, v, .slice (some ⟨b, 0, none⟩) (m + 1) (m + 1))) (hT : elemOf' P T = some (E, d.sz, y)) (hi : H[c]? = some (own d E v xs)) (hi2 : H[c2]? = some (Eng.box b t2 cs)) (hm : ys.length = m + 1)
    (hc : Cells d w (Mset M0 H) ys cs) (hb : mayBe (xs.length + ys.length) y = true)
    (hn : ∀ w' A cp, Holds M0 w0 w' (H.set c (own d E (.slice A (xs ++ ys).length cp) (xs ++ ys))) → Kp v.ownBlock.toList w w' → (∀ b, (Value.slice A (xs ++ ys).length cp).ownBlock = some b → v.ownBlock = some b ∨ w.heap.size ≤ b) → K ((dst, .slice A (xs ++ ys).length cp) :: e) w') : OpE F n i e w K := by
  obtain ⟨hu, inf, z, h1, h2, h3, h4, h5⟩ := elemOf_spec hT
  obtain ⟨hb1, hb2⟩ := mayBe_spec hb
  obtain ⟨cells, hown, hcl⟩ := hH.get c hi
  have hblk : w.heap[b]? = some (.cells cs.toArray t2 (0, 0)) := hH.get c2 hi2
  have hA : ∀ ty, ∃ v' w', (Builtin.append_ #[T, T] ty #[v, .slice (some ⟨b, 0, none⟩) (m + 1) (m + 1)]).run P w = .ok v' w' ∧ w'.ownsRow 0 E d.sz v' (xs.length + (m + 1)) (cells ++ cs) ∧ w.grownBy w' v.ownBlock ∧
      (∀ b, v'.ownBlock = some b → v.ownBlock = some b ∨ (w.heap.size ≤ b ∧ b < w'.heap.size)) := fun ty =>
    run_append_at (ty := ty) hu h1 h2 h3 h5 hown (a := ⟨b, 0, none⟩) (c := m + 1) (m := m + 1) (news := cs) (by rw [hc.len, hm]) (fun j u hj => by
      rw [Addr.add_lit]
      have := box_cells hblk 0 j u (by simpa using hj)
      simpa using this) hc.one (by omega) (by rw [hm] at hb1; exact hb1) (by rw [hm] at hb2; rw [h4]; exact hb2)
  obtain ⟨v', w', hr, h6, h7, h8⟩ := hA (opOf F.B n i).type
  have hrun : (execOp e.eval (opOf F.B n i)).run P w = .ok (.value v') w' := by
    unfold appendOf at hx
    split at hx <;> first | (cases hx; done) | skip
    rename_i s' x' t t' hop
    cases hbb : Nat.beq t t' with
    | false => simp [hbb] at hx
    | true =>
      have := Nat.eq_of_beq_eq_true hbb
      subst this
      simp only [hbb, cond_true, Option.some.injEq, Prod.mk.injEq] at hx
      obtain ⟨rfl, hs, hx'⟩ := hx
      unfold execOp
      simp [hop, resolve, invoke, builtin, hs, hx', hr]
  rw [← hm] at h6
  have hH' := hH.appended c hi hcl hc h6 h7 h8
  obtain ⟨A, cp, rfl⟩ := own_form (hH'.get c (by rw [List.getElem?_set_self (List.getElem?_eq_some_iff.1 hi).1]))
  exact OpE.run dst ho hrun (hn w' A cp hH' ⟨h7.size, fun b hb hx => h7.block b hb (fun e => hx (by rw [← e]; simp))⟩ (fun b hb => (h8 b hb).imp id (·.1)))
theorem OpE.appendBox (dst c c2 : Nat) (T E : TypeId) (y : Nat) {α : Type} {d : Rp α} {v : Value} {xs : List α} {b : Nat} {t2 : TypeId} {cs : List Value} (ys : List α) (m : Nat) (hH : Holds M0 w0 w H) (ho : opOk F n i e dst = true)
    (hx : appendOf F n i e = some (T, v, .slice (some ⟨b, 0, none⟩) (m + 1) (m + 1))) (hT : elemOf' P T = some (E, d.sz, y)) (hi : H[c]? = some (own d E v xs)) (hi2 : H[c2]? = some (Eng.box b t2 cs)) (hm : ys.length = m + 1)
    (hc : Cells d w (Mset M0 H) ys cs) (hb : mayBe (xs.length + ys.length) y = true)
    (hn : ∀ w' A cp, Holds M0 w0 w' (H.set c (own d E (.slice A (xs ++ ys).length cp) (xs ++ ys))) → Kp v.ownBlock.toList w w' → K ((dst, .slice A (xs ++ ys).length cp) :: e) w') : OpE F n i e w K :=
  OpE.appendBoxN dst c c2 T E y ys m hH ho hx hT hi hi2 hm hc hb fun w' A cp h hk _ => hn w' A cp h hk
end
def Let {α β : Type} (b : α) (f : α → β) : β := f b
theorem of_let {α β : Type} {b : α} {f : α → Option β} {r : β} (h : Let b f = some r) : ∃ j, j = b ∧ f j = some r := ⟨b, rfl, h⟩
inductive Lp (ρ ε : Type) where
  | ret (r : ρ)
  | go (x : ε)
def Lp.elim {ρ ε γ : Type} : Lp ρ ε → (ρ → γ) → (ε → γ) → γ
  | .ret r, f, _ => f r
  | .go x, _, g => g x
def band (k : IntKind) (x y : Int) : Int := k.wrap (BitVec.ofInt k.bits x &&& BitVec.ofInt k.bits y).toNat
def bor (k : IntKind) (x y : Int) : Int := k.wrap (BitVec.ofInt k.bits x ||| BitVec.ofInt k.bits y).toNat
def bxor (k : IntKind) (x y : Int) : Int := k.wrap (BitVec.ofInt k.bits x ^^^ BitVec.ofInt k.bits y).toNat
def btD (s : ByteArray) (i : Int) : Int := ((s[i.toNat]?).getD 0).toNat
def mayCat (a b : Nat) : Bool := decide (((a + b : Nat) : Int) ≤ IntKind.i64.max)

section
variable {P : Program} {F : Fun P} {k : List It} {e e' : Env} {w w' w0 : World} {R : Ending → World → Prop} {n i : Nat} {M0 : Nat → Prop} {H : List Chunk} {K : Env → World → Prop}
def litOf (P : Program) (F : Fun P) (n i : Nat) (e : Env) : Option (TypeId × List Value × Nat) :=
  match (opOf F.B n i).op with
  | .buildSlice T len parts =>
    (match P.underlying T with
    | some (.slice E) => (match P.info? E with
      | some inf => (match inf.zero with
        | some z => cond (Nat.ble (len * inf.size) 16777216)
          (match Instr.fill (fun i => some (i * inf.size, inf.size)) ((List.range (len * inf.size)).map (fun i => (z.cells.toList[i % z.cells.size]?).getD default)).toArray (parts.map fun (i, x) => (i, e.eval x)).toList with
           | some cs => some (E, cs.toList, len)
           | none => none) none
        | none => none)
      | none => none)
    | _ => none)
  | _ => none
theorem OpE.lit (d : Nat) (t : TypeId) (cs : List Value) (m : Nat) (hH : Holds M0 w0 w H) (ho : opOk F n i e d = true) (hb : litOf P F n i e = some (t, cs, m))
    (hn : ∀ w' b, Holds M0 w0 w' (H ++ [Eng.box b t cs]) → Below w.heap.size w w' → w.heap.size ≤ b → K ((d, .slice (some ⟨b, 0, none⟩) m m) :: e) w') : OpE F n i e w K := by
  refine OpE.run d ho ?_ (hn (w.alloc (.cells cs.toArray t)) w.heap.size (hH.box t cs) ((Below.refl _ _).alloc (Nat.le_refl _) _) (Nat.le_refl _))
  unfold litOf at hb
  unfold execOp
  cases hop : (opOf F.B n i).op <;> simp only [hop] at hb <;> first | (cases hb; done) | skip
  rename_i T len parts
  cases hu : P.underlying T with
  | none => simp [hu] at hb
  | some dd =>
    cases dd <;> simp only [hu] at hb <;> first | (cases hb; done) | skip
    rename_i E
    cases hi : P.info? E with
    | none => simp [hi] at hb
    | some inf =>
      simp only [hi] at hb
      cases hz : inf.zero with
      | none => simp [hz] at hb
      | some z =>
        simp only [hz] at hb
        cases hle : Nat.ble (len * inf.size) 16777216 with
        | false => simp [hle] at hb
        | true =>
          have hle' : ¬ 16777216 < len * inf.size := by have := Nat.le_of_ble_eq_true hle; omega
          simp only [hle, cond_true] at hb
          split at hb
          · rename_i cs' hf
            simp only [Option.some.injEq, Prod.mk.injEq] at hb
            obtain ⟨rfl, rfl, rfl⟩ := hb
            have hr : ((Array.range (len * inf.size)).map (fun x => z.cells[x % z.cells.size]!)) = ((List.range (len * inf.size)).map (fun i => (z.cells.toList[i % z.cells.size]?).getD default)).toArray := by
              apply Array.ext'
              simp
              intro a _
              rw [getElem!_def]
              cases z.cells[a % z.cells.size]? <;> rfl
            rw [← hr] at hf
            by_cases h0 : len * inf.size = 0
            · have hnil : ((Array.range (len * inf.size)).map (fun x => z.cells[x % z.cells.size]!)) = #[] := by rw [h0]; simp
              have hnil2 : ((Array.range (len * inf.size)).map (fun x => (#[] : Array Value)[x % (#[] : Array Value).size]!)) = #[] := by rw [h0]; simp
              rw [hnil] at hf
              simp only [Instr.buildSlice, Sem.run_bind, run_underlying hu, Result.andThen_ok, sizeOf, typeInfo, hi, run_program, Sem.run_pure]
              rw [if_neg hle', if_pos h0]
              simp only [Sem.run_pure, Sem.run_bind, Result.andThen_ok, Sem.run_ite, if_pos h0]
              rw [hnil2, hf]
              simp [newRow]
            · have hf2 := hf
              simp only [Array.toList_map] at hf2
              simp [Instr.buildSlice, run_underlying hu, sizeOf, typeInfo, hi, hle', h0, zeroValue, hz, hf2, newRow]
          · cases hb
end
#print axioms OpE.lit
end Go.Eng
