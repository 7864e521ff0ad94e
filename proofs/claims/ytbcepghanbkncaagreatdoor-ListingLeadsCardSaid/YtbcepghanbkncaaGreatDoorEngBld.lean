/- The engine's builders of texts: a builder with its bytes as one thing that is held. -/
import Derived.Test.YtbcepghanbkncaaGreatDoorEngRow
import Derived.Test.YtbcepghanbkncaaGreatDoorEngSeq
import Derived.Lib.Builder
import Derived.Lib.AppendStr
import Derived.Lib.UnsafeStr
set_option linter.unusedVariables false
set_option linter.unusedSimpArgs false
set_option linter.unusedSectionVars false
namespace Go.Eng
open Go.RowKit
section
variable {P : Program} {w w' w0 : World} {M0 M : Nat → Prop} {H : List Chunk} {c : Nat} {T E b : Nat}
def blAt (T E : TypeId) (b : Nat) (v1 : Value) (A : Option Addr) (cp : Nat) (l : List UInt8) (w : World) : Prop :=
  (∃ p, (p = .pointer none ∨ p = .pointer (some ⟨b, 0, none⟩)) ∧ w.heap[b]? = some (.cells #[p, v1] T (0, 0))) ∧ w.ownsRow 0 E 1 (.slice A l.length cp) l.length (Lib.byteCells l) ∧ (Value.slice A l.length cp).ownBlock ≠ some b
theorem blAt.keep {v1 : Value} {A : Option Addr} {cp : Nat} {l : List UInt8} (h : blAt T E b v1 A cp l w) (hk : ∀ x, x < w.heap.size → (x = b ∨ (Value.slice A l.length cp).ownBlock = some x) → w'.heap[x]? = w.heap[x]?) : blAt T E b v1 A cp l w' := by
  obtain ⟨⟨p, hp, hb⟩, ho, hne⟩ := h
  refine ⟨⟨p, hp, (hk b (Array.getElem?_eq_some_iff.1 hb).1 (.inl rfl)).trans hb⟩, ⟨ho.1, ?_⟩, hne⟩
  rcases ho.2 with hn | ⟨g, cap, cur, hv, h0, hg, rest⟩
  · exact .inl hn
  · exact .inr ⟨g, cap, cur, hv, h0, (hk g (Array.getElem?_eq_some_iff.1 hg).1 (.inr (by rw [hv]; rfl))).trans hg, rest⟩
def bl (T E : TypeId) (b : Nat) (v1 : Value) (A : Option Addr) (cp : Nat) (l : List UInt8) : Chunk :=
  ⟨b :: (Value.slice A l.length cp).ownBlock.toList, fun w _ => blAt T E b v1 A cp l w,
    fun {_ _ _ _} h1 h2 h3 h => h.keep fun x hx hm => h2 x hx (.inl (by rcases hm with rfl | hm; exact List.mem_cons_self; exact List.mem_cons_of_mem _ (by simp [hm])))⟩
theorem bl_mine (v1 : Value) {A : Option Addr} {cp : Nat} {l : List UInt8} (h : (Value.slice A l.length cp).ownBlock ≠ some b) : (bl T E b v1 A cp l).mine.Nodup := by
  show (b :: (Value.slice A l.length cp).ownBlock.toList).Nodup
  rw [List.nodup_cons]
  refine ⟨fun hm => h (by simpa using hm), ?_⟩
  cases (Value.slice A l.length cp).ownBlock <;> simp
theorem Holds.boxBl (hH : Holds M0 w0 w H) (c : Nat) (hi : H[c]? = some (Eng.box b T [.pointer none, .slice none 0 0])) : Holds M0 w0 w (H.set c (bl T E b (.slice none ([] : List UInt8).length 0) none 0 [])) := by
  refine hH.turn c hi hH.below (Nat.le_refl _) (fun _ _ _ => rfl) (fun x hx => .inl (by simpa [bl, Value.ownBlock, Eng.box] using hx)) (by simp [bl, Value.ownBlock]) (fun hM => ?_)
  exact ⟨⟨_, .inl rfl, hH.get c hi⟩, World.ownsRow_nil w 0 E 1, by simp [Value.ownBlock]⟩
theorem Holds.blPut {v1 v1' : Value} {A : Option Addr} {cp : Nat} {l : List UInt8} (hH : Holds M0 w0 w H) (hi : H[c]? = some (bl T E b v1 A cp l)) (p' : Value) (hp : p' = .pointer none ∨ p' = .pointer (some ⟨b, 0, none⟩)) :
    Holds M0 w0 (w.putObj b (.cells #[p', v1'] T (0, 0))) (H.set c (bl T E b v1' A cp l)) := by
  obtain ⟨⟨p, _, hb⟩, ho, hne⟩ := hH.get c hi
  have hbm : b ∈ (bl T E b v1 A cp l).mine := List.mem_cons_self
  have hm := hH.mine b (List.mem_flatMap.2 ⟨_, List.mem_of_getElem? hi, hbm⟩)
  have h := hH.below
  refine hH.turn c hi ⟨h.os, h.tape, h.output, by simp; exact h.size, fun y hy => by rw [World.putObj_heap_other (by omega)]; exact h.block y hy⟩ (by simp) (fun y _ hy => World.putObj_heap_other (fun e => hy (by rw [e]; exact hbm))) (fun y hy => .inl hy) (bl_mine _ hne) (fun hM => ?_)
  refine ⟨⟨p', hp, World.putObj_heap_same hm.2⟩, ⟨ho.1, ?_⟩, hne⟩
  rcases ho.2 with hn | ⟨g, cap, cur, hv, h0, hg, rest⟩
  · exact .inl hn
  · refine .inr ⟨g, cap, cur, hv, h0, ?_, rest⟩
    rw [World.putObj_heap_other (fun e => hne (by rw [hv, e]; rfl))]
    exact hg
theorem setCell_put {v0 v1 v' : Value} {i : Nat} (hb : w.heap[b]? = some (.cells #[v0, v1] T (0, 0))) : w.setCell ⟨b, i, none⟩ v' = w.putObj b (.cells (#[v0, v1].setIfInBounds i v') T (0, 0)) := by
  have hlt := (Array.getElem?_eq_some_iff.1 hb).1
  unfold World.setCell World.putObj
  congr 1
  apply Array.ext_getElem?
  intro j
  rw [Array.getElem?_modify, Array.getElem?_setIfInBounds]
  by_cases hj : b = j
  · subst hj
    have hb2 := (Array.getElem?_eq_some_iff.1 hb).2
    simp [hlt, hb2]
  · simp [hj]
def CopyOk (P : Program) (g : FuncId) (T : TypeId) : Prop :=
  (∀ (b : Nat) (w : World), w.cell? ⟨b, 0, none⟩ = some (.pointer (some ⟨b, 0, none⟩)) → Calls P g #[.pointer (some ⟨b, 0, none⟩)] w fun e w' => e = .returned (.tuple #[]) ∧ w' = w) ∧
  ∀ (b : Nat) (w : World), w.cell? ⟨b, 0, none⟩ = some (.pointer none) → w.shape? b = some (T, 2) → w.frozen? ⟨b, 0, none⟩ = false → Calls P g #[.pointer (some ⟨b, 0, none⟩)] w fun e w' => e = .returned (.tuple #[]) ∧ w' = w.setCell ⟨b, 0, none⟩ (.pointer (some ⟨b, 0, none⟩))
theorem Holds.copyCheck {g : FuncId} (hC : CopyOk P g T) {v1 : Value} {A : Option Addr} {cp : Nat} {l : List UInt8} (hH : Holds M0 w0 w H) (hi : H[c]? = some (bl T E b v1 A cp l)) :
    Calls P g #[.pointer (some ⟨b, 0, none⟩)] w fun e w' => e = .returned (.tuple #[]) ∧ Holds M0 w0 w' (H.set c (bl T E b v1 A cp l)) := by
  obtain ⟨⟨p, hp, hb⟩, ho, hne⟩ := hH.get c hi
  have hset : H.set c (bl T E b v1 A cp l) = H := by
    refine List.ext_getElem? fun j => ?_
    by_cases hjc : c = j
    · subst hjc; rw [List.getElem?_set_self (List.getElem?_eq_some_iff.1 hi).1, hi]
    · rw [List.getElem?_set_ne hjc]
  rcases hp with rfl | rfl
  · refine (hC.2 b w (by simp [World.cell?, hb]) (by simp [World.shape?, hb]) (by simp [World.frozen?, hb])).mono ?_
    rintro e w' ⟨rfl, rfl⟩
    refine ⟨rfl, ?_⟩
    rw [setCell_put hb]
    exact hH.blPut hi _ (.inr rfl)
  · refine (hC.1 b w (by simp [World.cell?, hb])).mono ?_
    rintro e w' ⟨rfl, rfl⟩
    exact ⟨rfl, by rw [hset]; exact hH⟩
theorem app_str {t u ty e : TypeId} {i : TypeInfo} (ht : P.underlying t = some (.slice e)) (hu : P.underlying u = some .string) (hi : P.info? e = some i) (hz : i.zero = some (.int .u8 0)) (hsize : i.size = 1) (hby : i.bytes = 1)
    {v : Value} {n : Nat} {xs : List Value} (hown : w.ownsRow 0 e 1 v n xs) (s : ByteArray) (h : n + s.size ≤ 140737488355328) :
    ∃ v' w', (Builtin.append_ #[t, u] ty #[v, .string s]).run P w = .ok v' w' ∧ w'.ownsRow 0 e 1 v' (n + s.size) (xs ++ Lib.strCells s) ∧ w.grownBy w' v.ownBlock ∧ (∀ g, v'.ownBlock = some g → v.ownBlock = some g ∨ (w.heap.size ≤ g ∧ g < w'.heap.size)) := by
  obtain ⟨v', w', hr, h1, h2, -⟩ := Lib.run_append_own_string (P := P) (w := w) 0 t u ty e i ht hu hi hz hsize hby v n xs hown s (by unfold maxLen; omega) h (Nat.zero_le _)
  refine ⟨v', w', hr, h1, h2, fun g hg => ?_⟩
  have hlt := (h1.lt g hg).2
  have hxl : xs.length = n := by simpa using hown.1
  rcases hown.2 with ⟨rfl, rfl⟩ | ⟨g0, cap, cur, rfl, hbg, hg0, hnc, hcm, hcs, htk⟩
  · by_cases hs : s.size = 0
    · exfalso
      have hx : xs = [] := List.eq_nil_of_length_eq_zero hxl
      have hf := Lib.run_firstCells_string (P := P) w 1 s
      rw [hs] at hf
      have : (Builtin.append_ #[t, u] ty #[.slice none 0 0, .string s]).run P w = .ok (.slice none 0 0) w := by
        have hn : Lib.strCells s = [] := List.eq_nil_of_length_eq_zero (by rw [Lib.strCells_length]; exact hs)
        simp [Builtin.append_, run_underlying ht, run_underlying hu, sizeOf, typeInfo, hi, hsize, Builtin.lenOf, hs, hf]
      rw [this] at hr
      cases hr
      simp [Value.ownBlock] at hg
    · have := run_append_nil_string (P := P) w t u ty e i (.int .u8 0) ht hu hi hz s (by omega) (by omega) (by rw [hby]; omega)
      rw [this] at hr
      cases hr
      simp only [Value.ownBlock, Option.some.injEq] at hg
      subst hg
      exact .inr ⟨Nat.le_refl _, hlt⟩
  · by_cases hroom : n + s.size ≤ cap
    · have hcs' : cur.size = cap := by simpa using hcs
      have := Lib.run_append_room_string (P := P) (w := w) t u ty e i ht hu hi hsize g0 n cap cur hg0 s hroom (by omega)
      rw [this] at hr
      cases hr
      simp only [Value.ownBlock, Option.some.injEq] at hg
      subst hg
      exact .inl rfl
    · have holds : ∀ j u, xs[j]? = some u → w.cell? ((⟨g0, 0, none⟩ : Addr).add j) = some u := hown.cells (g := g0) rfl
      have := Lib.run_append_grow_string (P := P) (w := w) t u ty e i (.int .u8 0) ht hu hi hz ⟨g0, 0, none⟩ n cap xs (by rw [hsize]; simpa using hxl) holds s (by omega) (by omega) (by rw [hby]; exact growslice_fits (by omega) (by omega))
      rw [this] at hr
      cases hr
      simp only [Value.ownBlock, Option.some.injEq] at hg
      subst hg
      exact .inr ⟨Nat.le_refl _, hlt⟩
def bldR (n m : Nat) : Bool := Nat.ble (n + m) 140737488355328
theorem Holds.blApp {t u ty : TypeId} {i : TypeInfo} (ht : P.underlying t = some (.slice E)) (hu : P.underlying u = some .string) (hi0 : P.info? E = some i) (hz : i.zero = some (.int .u8 0)) (hsize : i.size = 1) (hby : i.bytes = 1)
    {v1 : Value} {A : Option Addr} {cp : Nat} {l : List UInt8} (hH : Holds M0 w0 w H) (hi : H[c]? = some (bl T E b v1 A cp l)) (hTE : T ≠ E) (s : ByteArray) (h : bldR l.length s.size = true) :
    ∃ A' cp' w', (Builtin.append_ #[t, u] ty #[.slice A l.length cp, .string s]).run P w = .ok (.slice A' (l ++ s.data.toList).length cp') w' ∧ Holds M0 w0 w' (H.set c (bl T E b v1 A' cp' (l ++ s.data.toList))) := by
  obtain ⟨⟨p, hp, hb⟩, ho, hne⟩ := hH.get c hi
  obtain ⟨v', w', hr, h1, h2, h3⟩ := app_str (ty := ty) ht hu hi0 hz hsize hby ho s (by simpa [bldR] using h)
  obtain ⟨A', cp', rfl⟩ : ∃ A' cp', v' = .slice A' (l ++ s.data.toList).length cp' := by
    have hl : (l ++ s.data.toList).length = l.length + s.size := by rw [List.length_append, Array.length_toList]; rfl
    rcases h1.2 with ⟨hv, h0⟩ | ⟨g, cap, cur, hv, _⟩
    · exact ⟨none, 0, by rw [hv, hl, h0]⟩
    · exact ⟨_, _, by rw [hv, hl]⟩
  refine ⟨A', cp', w', hr, ?_⟩
  have hbm : b ∈ (bl T E b v1 A cp l).mine := List.mem_cons_self
  have hm := hH.mine b (List.mem_flatMap.2 ⟨_, List.mem_of_getElem? hi, hbm⟩)
  have hrow : ∀ g, (Value.slice A l.length cp).ownBlock = some g → w0.heap.size ≤ g := fun g hg => (hH.mine g (List.mem_flatMap.2 ⟨_, List.mem_of_getElem? hi, List.mem_cons_of_mem _ (by simp [hg])⟩)).1
  have hb' : w'.heap[b]? = some (.cells #[p, v1] T (0, 0)) := (h2.block b hm.2 (fun e => hne e.symm)).trans hb
  have hne' : (Value.slice A' (l ++ s.data.toList).length cp').ownBlock ≠ some b := fun e => by
    rcases h1.2 with ⟨hv, h0⟩ | ⟨g, cap, cur, hv, _, hg, _⟩
    · rw [hv] at e; simp [Value.ownBlock] at e
    · rw [hv] at e
      simp only [Value.ownBlock, Option.some.injEq] at e
      subst e
      rw [hg] at hb'
      simp only [Option.some.injEq, Obj.cells.injEq] at hb'
      exact hTE hb'.2.1.symm
  refine hH.turn c hi (hH.below.grown h2 hH.below.size hrow) h2.size (fun x hx hxn => h2.block x hx (fun e => hxn (List.mem_cons_of_mem _ (by simp [← e])))) (fun x hx => ?_) (bl_mine _ hne') (fun hM => ⟨⟨p, hp, hb'⟩, ?_, hne'⟩)
  · rcases List.mem_cons.1 hx with rfl | hx
    · exact .inl List.mem_cons_self
    · rcases h3 x (by simpa using hx) with h4 | h4
      · exact .inl (List.mem_cons_of_mem _ (by simp [h4]))
      · exact .inr h4
  · have e : Lib.byteCells (l ++ s.data.toList) = Lib.byteCells l ++ Lib.strCells s := by rw [Lib.byteCells_append]; rfl
    have hl : (l ++ s.data.toList).length = l.length + s.size := by rw [List.length_append, Array.length_toList]; rfl
    rw [e]
    rwa [← hl] at h1
theorem bl_is {v1 : Value} {A : Option Addr} {cp : Nat} {l : List UInt8} (hH : Holds M0 w0 w H) (c : Nat) (hi : H[c]? = some (bl T E b v1 A cp l)) (hv : v1 = .slice A l.length cp) : Lib.IsBuilder T E w0.heap.size b (Lib.byteCells l) w := by
  subst hv
  obtain ⟨⟨p, hp, hb⟩, ho, hne⟩ := hH.get c hi
  have hm := hH.mine b (List.mem_flatMap.2 ⟨_, List.mem_of_getElem? hi, List.mem_cons_self⟩)
  have hrow : ∀ g, (Value.slice A l.length cp).ownBlock = some g → w0.heap.size ≤ g := fun g hg => (hH.mine g (List.mem_flatMap.2 ⟨_, List.mem_of_getElem? hi, List.mem_cons_of_mem _ (by simp [hg])⟩)).1
  have ho' : w.ownsRow w0.heap.size E 1 (.slice A l.length cp) (Lib.byteCells l).length (Lib.byteCells l) := by
    rw [Lib.byteCells_length]
    refine ⟨ho.1, ?_⟩
    rcases ho.2 with hn | ⟨g, cap, cur, hv, h0, rest⟩
    · exact .inl hn
    · exact .inr ⟨g, cap, cur, hv, hrow g (by rw [hv]; rfl), rest⟩
  rcases hp with rfl | rfl
  · exact .inl ⟨hm.1, _, hb, ho', hne⟩
  · exact .inr ⟨hm.1, _, hb, ho', hne⟩
theorem Holds.only (hH : Holds M0 w0 w H) (hb : Below w0.heap.size w w') : Holds M0 w0 w' [] :=
  ⟨hH.below.trans hb, hH.old, fun c hc => by simp at hc, fun b hb => by simp [mines] at hb, by simp [mines]⟩
end
section
variable {P : Program} {F : Fun P} {k : List It} {e e' : Env} {w w' w0 : World} {R : Ending → World → Prop} {n i c : Nat} {M0 : Nat → Prop} {H : List Chunk} {K : Env → World → Prop} {T E b : Nat}
def appStrOf (F : Fun P) (n i : Nat) (e : Env) : Option (TypeId × TypeId × Value × Value) :=
  match (opOf F.B n i).op with
  | .call { callee := .builtin .append, args := ⟨[s, x]⟩, argTypes := ⟨[t, t']⟩ } => some (t, t', e.eval s, e.eval x)
  | _ => none
theorem run_appendStr {T U : TypeId} {v v' : Value} {s : ByteArray} (hx : appStrOf F n i e = some (T, U, v, .string s)) (hr : (Builtin.append_ #[T, U] (opOf F.B n i).type #[v, .string s]).run P w = .ok v' w') :
    (execOp e.eval (opOf F.B n i)).run P w = .ok (.value v') w' := by
  unfold appStrOf at hx
  split at hx <;> first | (cases hx; done) | skip
  rename_i s' x t t' hop
  simp only [Option.some.injEq, Prod.mk.injEq] at hx
  obtain ⟨rfl, rfl, h1, h2⟩ := hx
  unfold execOp
  simp [hop, resolve, invoke, builtin, h1, h2, hr]
theorem OpE.storeBl (c : Nat) (S : TypeId) {T E b : Nat} {A2 : Option Addr} {n2 c2 : Nat} {v1 : Value} {A : Option Addr} {cp : Nat} {l : List UInt8} (hH : Holds M0 w0 w H) (ho : opOk0 F n i e = true) (hl : storeOf F n i e = some (S, ⟨b, 1, none⟩, .slice A2 n2 c2)) (hi : H[c]? = some (bl T E b v1 A cp l))
    (hf : fitsV P S (.slice A2 n2 c2) = true) (hn : ∀ w', Holds M0 w0 w' (H.set c (bl T E b (.slice A2 n2 c2) A cp l)) → K e w') : OpE F n i e w K := by
  obtain ⟨⟨p, hp, hb⟩, hro, hne⟩ := hH.get c hi
  have hblk : w.heap[b]? = some (.cells [p, v1].toArray T (0, 0)) := hb
  have hbm := hH.mine b (List.mem_flatMap.2 ⟨_, List.mem_of_getElem? hi, List.mem_cons_self⟩)
  have hrow := setRow_heap w b [p, v1].toArray [p, .slice A2 n2 c2].toArray T (0, 0) hblk
  have hnew : Holds M0 w0 (w.setRow b [p, .slice A2 n2 c2].toArray) (H.set c (bl T E b (.slice A2 n2 c2) A cp l)) :=
    hH.turn c hi (Below.setRow hH.below hbm.1 _) (by simp) (fun x _ hx => setRow_other w b x _ (fun e => hx (by rw [e]; exact List.mem_cons_self))) (fun y hy => .inl hy) (bl_mine _ hne) (fun _ => ⟨⟨p, hp, hrow⟩, ⟨hro.1, by
      rcases hro.2 with hn | ⟨g, cap, cur, hv, h0, hg, rest⟩
      · exact .inl hn
      · refine .inr ⟨g, cap, cur, hv, h0, ?_, rest⟩
        rw [setRow_other w b g _ (fun e => hne (by rw [hv, e]; rfl))]
        exact hg⟩, hne⟩)
  refine OpE.skip ho ?_ (hn _ hnew)
  unfold storeOf at hl
  cases hop : (opOf F.B n i).op <;> simp only [hop] at hl <;> first | (cases hl; done) | skip
  rename_i T' a x
  cases ha : e.eval a <;> simp only [ha] at hl <;> first | (cases hl; done) | skip
  rename_i ad
  cases ad <;> simp only [Option.some.injEq, Prod.mk.injEq] at hl <;> first | (cases hl; done) | skip
  obtain ⟨rfl, rfl, hx⟩ := hl
  rw [← hx] at hf
  have := run_storeV (P := P) (o := 1) hblk hf (by rw [hx]; exact Nat.le_refl _)
  rw [hx] at this
  unfold execOp
  simp only [hop, ha]
  have e2 : (List.take 1 [p, v1] ++ (Value.slice A2 n2 c2).cells.toList ++ List.drop (1 + (Value.slice A2 n2 c2).cells.size) [p, v1]) = [p, .slice A2 n2 c2] := rfl
  rw [e2] at this
  simp [Instr.storeAt, Instr.sureAddr, hx, this]
end
end Go.Eng
