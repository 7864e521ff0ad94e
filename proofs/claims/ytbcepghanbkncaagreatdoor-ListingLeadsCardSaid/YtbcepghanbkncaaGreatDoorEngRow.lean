/- The engine's rows: appends of rows to rows, rows of the call's own read and written in place, made rows, texts out of bytes. -/
import Derived.Test.YtbcepghanbkncaaGreatDoorEngMore
import Derived.Deep.Upon
set_option linter.unusedVariables false
set_option linter.unusedSimpArgs false
namespace Go.Eng
open Go.RowKit

def Rd {α : Type} (d : Rp α) (w : World) (M : Nat → Prop) (v : Value) (ys : List α) : Prop :=
  ∃ A c, v = .slice A ys.length c ∧ (0 < ys.length → ∃ a news, A = some a ∧ Cells d w M ys news ∧ ∀ j u, news[j]? = some u → w.cell? (a.add j) = some u)
theorem cells_of {α : Type} {d : Rp α} {w : World} {M : Nat → Prop} {b : Nat} : ∀ (xs : List α) (o : Nat), (∀ j x, xs[j]? = some x → ∃ cs, d.K w M x cs ∧ ∀ i u, cs[i]? = some u → w.cell? ⟨b, o + j * d.sz + i, none⟩ = some u) →
    ∃ cs, Cells d w M xs cs ∧ ∀ j u, cs[j]? = some u → w.cell? ⟨b, o + j, none⟩ = some u
  | [], o, _ => ⟨[], rfl, fun j u h => by simp at h⟩
  | x :: xs, o, h => by
    obtain ⟨c1, hk, h1⟩ := h 0 x rfl
    obtain ⟨c2, hc, h2⟩ := cells_of xs (o + d.sz) (fun j y hy => by
      obtain ⟨cs, hk, hcs⟩ := h (j + 1) y (by simpa using hy)
      refine ⟨cs, hk, fun i u hu => ?_⟩
      have := hcs i u hu
      rwa [show o + (j + 1) * d.sz + i = o + d.sz + j * d.sz + i by rw [Nat.add_mul]; omega] at this)
    refine ⟨c1 ++ c2, ⟨c1, c2, rfl, hk, hc⟩, fun j u hu => ?_⟩
    have hl := d.len hk
    by_cases hj : j < c1.length
    · rw [List.getElem?_append_left hj] at hu
      have := h1 j u hu
      simpa using this
    · rw [List.getElem?_append_right (by omega)] at hu
      have := h2 _ u hu
      rwa [show o + d.sz + (j - c1.length) = o + j by omega] at this
theorem Sl.rd {α : Type} {d : Rp α} {w : World} {M : Nat → Prop} {v : Value} {ys : List α} (h : Sl d w M v ys) : Rd d w M v ys := by
  obtain ⟨A, c, hv, _, _, _, hp⟩ := h
  refine ⟨A, c, hv, fun h0 => ?_⟩
  obtain ⟨b, o, hA, hb, hM, hc⟩ := hp h0
  obtain ⟨cs, h1, h2⟩ := cells_of ys o hc
  exact ⟨_, cs, hA, h1, fun j u hu => by rw [Addr.add_lit]; exact h2 j u hu⟩
section
variable {P : Program} {F : Fun P} {k : List It} {e e' : Env} {w w' w0 : World} {R : Ending → World → Prop} {n i : Nat} {M0 : Nat → Prop} {H : List Chunk} {K : Env → World → Prop}
theorem Holds.rdSl {α : Type} (h : Holds M0 w0 w H) (c : Nat) {d : Rp α} {v : Value} {xs : List α} (hi : H[c]? = some (sl d v xs)) : Rd d w (Mset M0 H) v xs := Sl.rd (h.get c hi)
theorem run_append_any {T : TypeId} {s x v' : Value} (hx : appendOf F n i e = some (T, s, x)) (h : (Builtin.append_ #[T, T] (opOf F.B n i).type #[s, x]).run P w = .ok v' w') :
    (execOp e.eval (opOf F.B n i)).run P w = .ok (.value v') w' := by
  unfold appendOf at hx
  split at hx <;> first | (cases hx; done) | skip
  rename_i s' x' t t' hop
  cases hbb : Nat.beq t t' with
  | false => simp [hbb] at hx
  | true =>
    have := Nat.eq_of_beq_eq_true hbb
    subst this
    simp only [hbb, cond_true, Option.some.injEq, Prod.mk.injEq] at hx
    obtain ⟨rfl, rfl, rfl⟩ := hx
    unfold execOp
    simp [hop, resolve, invoke, builtin, h]
theorem OpE.appendRow (dst c : Nat) (T E : TypeId) (y : Nat) {α : Type} {d : Rp α} {v v2 : Value} {xs ys : List α} (hH : Holds M0 w0 w H) (ho : opOk F n i e dst = true)
    (hx : appendOf F n i e = some (T, v, v2)) (hT : elemOf' P T = some (E, d.sz, y)) (hi : H[c]? = some (own d E v xs)) (h2 : Rd d w (Mset M0 H) v2 ys) (hb : mayBe (xs.length + ys.length) y = true)
    (hn : ∀ w' A cp, Holds M0 w0 w' (H.set c (own d E (.slice A (xs ++ ys).length cp) (xs ++ ys))) → Kp v.ownBlock.toList w w' → K ((dst, .slice A (xs ++ ys).length cp) :: e) w') : OpE F n i e w K := by
  obtain ⟨hu, inf, z, h1, hz, h3, h4, h5⟩ := elemOf_spec hT
  obtain ⟨hb1, hb2⟩ := mayBe_spec hb
  obtain ⟨cells, hown, hcl⟩ := hH.get c hi
  obtain ⟨A, c2, rfl, hp⟩ := h2
  by_cases h0 : 0 < ys.length
  · obtain ⟨a, news, rfl, hc, hm⟩ := hp h0
    have hA : ∀ ty, ∃ v' w', (Builtin.append_ #[T, T] ty #[v, .slice (some a) ys.length c2]).run P w = .ok v' w' ∧ w'.ownsRow 0 E d.sz v' (xs.length + ys.length) (cells ++ news) ∧ w.grownBy w' v.ownBlock ∧
        (∀ b, v'.ownBlock = some b → v.ownBlock = some b ∨ (w.heap.size ≤ b ∧ b < w'.heap.size)) := fun ty =>
      run_append_at (ty := ty) hu h1 hz h3 h5 hown (news := news) hc.len hm hc.one h0 hb1 (by rw [h4]; exact hb2)
    obtain ⟨v', w', hr, h6, h7, h8⟩ := hA (opOf F.B n i).type
    have hrun := run_append_any (n := n) (i := i) hx hr
    have hH' := hH.appended c hi hcl hc h6 h7 h8
    obtain ⟨A, cp, rfl⟩ := own_form (hH'.get c (by rw [List.getElem?_set_self (List.getElem?_eq_some_iff.1 hi).1]))
    exact OpE.run dst ho hrun (hn w' A cp hH' ⟨h7.size, fun b hb hx => h7.block b hb (fun e => hx (by rw [← e]; simp))⟩)
  · have hy : ys = [] := List.eq_nil_of_length_eq_zero (by omega)
    subst hy
    obtain ⟨A1, c1, hv⟩ := own_form (hH.get c hi)
    subst hv
    have hle : xs.length ≤ c1 := by
      rcases hown.2 with ⟨hv, h0⟩ | ⟨g, cap, cur, hv, _, _, hle, _⟩
      · simp at hv; omega
      · simp only [Value.slice.injEq] at hv; omega
    have hrun := run_append_any (n := n) (i := i) hx (run_append_nothing w T T (opOf F.B n i).type E inf hu h1 A1 xs.length c1 hle (.slice A 0 c2) (by cases A with | none => exact Src.ofNil w hu c2 | some a => exact Src.ofSlice w hu a 0 c2 [] (by simp) (fun j u h => by simp at h) (fun u h => by cases h)))
    have hset : H.set c (own d E (.slice A1 (xs ++ []).length c1) (xs ++ [])) = H := by
      rw [List.append_nil]
      apply List.ext_getElem?
      intro j
      by_cases hj : c = j
      · subst hj
        rw [List.getElem?_set_self (List.getElem?_eq_some_iff.1 hi).1, hi]
      · rw [List.getElem?_set_ne hj]
    have := hn w A1 c1 (by rw [hset]; exact hH) ⟨Nat.le_refl _, fun _ _ _ => rfl⟩
    exact OpE.run dst ho hrun (by simpa using this)

def stD {α : Type} (xs : List α) (i : Int) (x : α) : List α := xs.set i.toNat x
theorem stD_length {α : Type} (xs : List α) (i : Int) (x : α) : (stD xs i x).length = xs.length := by simp [stD]
theorem Holds.ownSome {α : Type} (h : Holds M0 w0 w H) (c : Nat) {d : Rp α} {t : TypeId} {A : Option Addr} {l cp : Nat} {xs : List α} {ix : Int} (hi : H[c]? = some (own d t (.slice A l cp) xs)) (hp : inR ix xs.length = true) : ∃ b, A = some ⟨b, 0, none⟩ := by
  obtain ⟨cells, ho, hc⟩ := h.get c hi
  have := inR_spec hp
  rcases ho.2 with ⟨hv, h0⟩ | ⟨g, cap, cur, hv, _⟩
  · omega
  · simp only [Value.slice.injEq] at hv
    exact ⟨g, hv.1⟩
theorem OpE.idxOwn (d c : Nat) (T E : TypeId) (ix : Int) {α : Type} {dd : Rp α} {b l cp : Nat} {xs : List α} (hH : Holds M0 w0 w H) (ho : opOk F n i e d = true) (hi : H[c]? = some (own dd E (.slice (some ⟨b, 0, none⟩) l cp) xs))
    (hx : idxOf F n i e = some (T, .slice (some ⟨b, 0, none⟩) l cp, ix)) (hT : elemSz P T = some dd.sz) (h : inR ix xs.length = true)
    (hn : K ((d, .pointer (some ⟨b, ix.toNat * dd.sz, none⟩)) :: e) w) : OpE F n i e w K := by
  obtain ⟨h0, h1⟩ := inR_spec h
  obtain ⟨A, c', hv⟩ := own_form (hH.get c hi)
  simp only [Value.slice.injEq] at hv
  obtain ⟨_, rfl, _⟩ := hv
  have := run_idx (w := w) hx hT h0 h1
  rw [Nat.zero_add] at this
  exact OpE.run d ho this hn
theorem own_at {α : Type} [Inhabited α] {dd : Rp α} {E : TypeId} {b l cp : Nat} {xs : List α} {ix : Int} {M : Nat → Prop} (h : (own dd E (.slice (some ⟨b, 0, none⟩) l cp) xs).ok w M) (hr : inR ix xs.length = true) :
    ∃ cs, dd.K w M (rdD xs ix) cs ∧ ∀ j u, cs[j]? = some u → w.cell? ⟨b, ix.toNat * dd.sz + j, none⟩ = some u := by
  obtain ⟨h0, h1⟩ := inR_spec hr
  obtain ⟨cells, ho, hc⟩ := h
  have hg : xs[ix.toNat]? = some (rdD xs ix) := by
    unfold rdD
    have : ix.toNat < xs.length := by omega
    simp [this]
  obtain ⟨cs, hk, hcs⟩ := hc.get _ _ hg
  refine ⟨cs, hk, fun j u hu => ?_⟩
  have := ho.cells (g := b) rfl _ u (hcs j u hu)
  rw [Addr.add_lit] at this
  simpa using this
theorem OpE.loadOwn (d c : Nat) (T E : TypeId) (ix : Int) (q : Nat) {α : Type} [Inhabited α] {dd : Rp α} {b o l cp : Nat} {xs : List α} (hH : Holds M0 w0 w H) (ho : opOk F n i e d = true) (hi : H[c]? = some (own dd E (.slice (some ⟨b, 0, none⟩) l cp) xs))
    (hl : loadOf F n i e = some (T, ⟨b, o, none⟩)) (hoq : o = ix.toNat * dd.sz + q) (h : inR ix xs.length = true) (hv : ∀ cs, dd.K w (Mset M0 H) (rdD xs ix) cs → ∃ v, loadV P T (cs.drop q) = some v ∧ K ((d, v) :: e) w) : OpE F n i e w K := by
  obtain ⟨cs, hk, hcs⟩ := own_at (hH.get c hi) h
  obtain ⟨v, h1, h2⟩ := hv cs hk
  refine OpE.load d T ho hl (cs := cs.drop q) (fun j u hu => ?_) h1 h2
  subst hoq
  rw [List.getElem?_drop] at hu
  rw [Nat.add_assoc]
  exact hcs _ u hu
theorem Cells.setK {α : Type} {d : Rp α} {w : World} {M : Nat → Prop} : ∀ {xs : List α} {cs : List Value}, Cells d w M xs cs → ∀ (j q : Nat) (x x' : α) (vs : List Value), xs[j]? = some x → q + vs.length ≤ d.sz →
    (∀ c, d.K w M x c → d.K w M x' (c.take q ++ vs ++ c.drop (q + vs.length))) → Cells d w M (xs.set j x') (cs.take (j * d.sz + q) ++ vs ++ cs.drop (j * d.sz + q + vs.length))
  | [], _, _, j, q, x, x', vs, hj, _, _ => by simp at hj
  | y :: xs, _, ⟨c1, c2, h, hk, hr⟩, 0, q, x, x', vs, hj, hq, hc => by
    simp at hj
    subst hj
    subst h
    have hl := d.len hk
    refine ⟨_, c2, ?_, hc c1 hk, hr⟩
    rw [Nat.zero_mul, Nat.zero_add, List.take_append_of_le_length (by omega), List.drop_append_of_le_length (by omega)]
    simp [List.append_assoc]
  | y :: xs, _, ⟨c1, c2, h, hk, hr⟩, j + 1, q, x, x', vs, hj, hq, hc => by
    subst h
    refine ⟨c1, _, ?_, hk, Cells.setK hr j q x x' vs (by simpa using hj) hq hc⟩
    have h1 : (j + 1) * d.sz + q = c1.length + (j * d.sz + q) := by rw [d.len hk, Nat.add_mul]; omega
    rw [h1, List.take_length_add_append, show c1.length + (j * d.sz + q) + vs.length = c1.length + (j * d.sz + q + vs.length) by omega, List.drop_length_add_append]
    simp [List.append_assoc]
theorem OpE.storeOwn (c : Nat) (T E : TypeId) (ix : Int) (q : Nat) (v : Value) {α : Type} [Inhabited α] {dd : Rp α} {b o l cp : Nat} {xs : List α} (x' : α) (hH : Holds M0 w0 w H) (ho : opOk0 F n i e = true) (hl : storeOf F n i e = some (T, ⟨b, o, none⟩, v))
    (hi : H[c]? = some (own dd E (.slice (some ⟨b, 0, none⟩) l cp) xs)) (hoq : o = ix.toNat * dd.sz + q) (hf : fitsV P T v = true) (hle : Nat.ble (q + v.cells.toList.length) dd.sz = true) (h : inR ix xs.length = true)
    (hx : ∀ cs, dd.K w (Mset M0 H) (rdD xs ix) cs → dd.K w (Mset M0 H) x' (cs.take q ++ v.cells.toList ++ cs.drop (q + v.cells.toList.length)))
    (hn : ∀ w', Holds M0 w0 w' (H.set c (own dd E (.slice (some ⟨b, 0, none⟩) l cp) (stD xs ix x'))) → Kp [b] w w' → K e w') : OpE F n i e w K := by
  obtain ⟨h0, h1⟩ := inR_spec h
  have hg : xs[ix.toNat]? = some (rdD xs ix) := by
    unfold rdD
    have : ix.toNat < xs.length := by omega
    simp [this]
  obtain ⟨cells, hown, hcl⟩ := hH.get c hi
  have hown' := hown
  rcases hown.2 with ⟨hv, _⟩ | ⟨g, cap, cur, hv, _, hgb, hnc, hcm, hcs, htk⟩
  · cases hv
  simp only [Value.slice.injEq, Option.some.injEq, Addr.mk.injEq] at hv
  obtain ⟨⟨rfl, _⟩, rfl, rfl⟩ := hv
  have hle' := Nat.le_of_ble_eq_true hle
  have hsz : ix.toNat * dd.sz + dd.sz ≤ xs.length * dd.sz := by
    have : (ix.toNat + 1) * dd.sz ≤ xs.length * dd.sz := Nat.mul_le_mul_right _ (by omega)
    rw [Nat.add_mul] at this
    omega
  have hcc : xs.length * dd.sz ≤ cp * dd.sz := Nat.mul_le_mul_right _ hnc
  have hcur : cur.toList.length = cp * dd.sz := by simpa using hcs
  subst hoq
  obtain ⟨nr, hnr⟩ : ∃ nr, nr = cur.toList.take (ix.toNat * dd.sz + q) ++ v.cells.toList ++ cur.toList.drop (ix.toNat * dd.sz + q + v.cells.size) := ⟨_, rfl⟩
  have hst : (storeVar T ⟨b, ix.toNat * dd.sz + q, none⟩ v).run P w = .ok () (w.setRow b nr.toArray) := hnr ▸
    run_storeV (P := P) (cs := cur.toList) (by simpa using hgb) hf (by rw [hcur]; simp only [Array.length_toList] at hle'; omega)
  have hmem : b ∈ (own dd E (.slice (some ⟨b, 0, none⟩) xs.length cp) xs).mine := by simp [own, Value.ownBlock]
  have hbm := hH.mine b (List.mem_flatMap.2 ⟨_, List.mem_of_getElem? hi, hmem⟩)
  have hlen : nr.length = cp * dd.sz := by
    subst hnr
    simp only [List.length_append, List.length_take, List.length_drop, hcur, Array.length_toList] at hle' ⊢
    omega
  refine OpE.skip ho ?_ (hn (w.setRow b nr.toArray) (hH.turn c hi (Below.setRow hH.below hbm.1 _) (by simp) (fun x _ hx => setRow_other w b x _ (fun e => hx (e ▸ hmem))) (fun x hx => .inl (by simpa [own, Value.ownBlock] using hx)) (by simp [own, Value.ownBlock]) (fun hM => ?_)) ⟨by simp, fun x _ hx => setRow_other w b x _ (by simpa using hx)⟩)
  · unfold storeOf at hl
    cases hop : (opOf F.B n i).op <;> simp only [hop] at hl <;> first | (cases hl; done) | skip
    rename_i T' a x
    cases ha : e.eval a <;> simp only [ha] at hl <;> first | (cases hl; done) | skip
    rename_i ad
    cases ad <;> simp only [Option.some.injEq, Prod.mk.injEq] at hl <;> first | (cases hl; done) | skip
    obtain ⟨rfl, rfl, rfl⟩ := hl
    unfold execOp
    simp [hop, ha, Instr.storeAt, Instr.sureAddr, hst]
  · have hcells := Cells.setK hcl ix.toNat q (rdD xs ix) x' v.cells.toList hg hle' hx
    refine ⟨_, ⟨?_, .inr ⟨b, cp, _, by rw [stD_length], Nat.zero_le _, setRow_heap w b cur _ E (0, 0) hgb, by rw [stD_length]; exact hnc, hcm, by simpa using hlen, ?_⟩⟩, hcells.keep (by simp) (fun x hx hxm => setRow_other w b x _ (fun e => hxm (.inr (List.mem_flatMap.2 ⟨_, List.mem_of_getElem? hi, e ▸ hmem⟩)))) hM⟩
    · rw [stD_length]
      have := hcells.len
      simpa [stD] using this
    · rw [stD_length]
      have hl2 := hcl.len
      simp only [Array.length_toList] at hle' ⊢
      apply List.ext_getElem?
      intro j
      rw [← htk]
      subst hnr
      simp only [List.getElem?_take, List.getElem?_append, List.getElem?_drop, List.length_append, List.length_take, hcur, Array.length_toList]
      grind

theorem Holds.newOwn {α : Type} (hH : Holds M0 w0 w H) {d : Rp α} {E : TypeId} {v : Value} {xs : List α} {b : Nat} {cells : List Value} (hb : v.ownBlock = some b) (h1 : w.heap.size ≤ b) (h2 : b < w'.heap.size)
    (ho : w'.ownsRow 0 E d.sz v xs.length cells) (hg : w.grownBy w' none) (hc : ∀ w M, Cells d w M xs cells) : Holds M0 w0 w' (H ++ [own d E v xs]) := by
  have h0 := hH.addOwnNil d E
  have hset : (H ++ [own d E (.slice none 0 0) []]).set H.length (own d E v xs) = H ++ [own d E v xs] := by simp
  rw [← hset]
  have hat : (H ++ [own d E (.slice none 0 0) ([] : List α)])[H.length]? = some (own d E (.slice none 0 0) []) := by simp
  refine h0.turn H.length hat (hH.below.grown hg hH.below.size (by simp)) hg.size (fun x hx _ => hg.block x hx (by simp)) (fun x hx => .inr ?_) (by simp [own, hb]) (fun hM => ⟨cells, ho, hc _ _⟩)
  simp [own, hb] at hx
  subst hx
  exact ⟨h1, h2⟩
def makeOf2 (F : Fun P) (n i : Nat) (e : Env) : Option (TypeId × IntKind × Int × IntKind × Int) :=
  match (opOf F.B n i).op with
  | .makeSlice T l c => (match e.eval l, e.eval c with | .int k x, .int k' y => some (T, k, x, k', y) | _, _ => none)
  | _ => none
def makeR (x : Int) (bytes : Nat) : Bool := decide (0 ≤ x) && decide ((bytes : Int) * x ≤ 281474976710656) && decide (x ≤ 9223372036854775807)
theorem makeR_spec {x : Int} {y : Nat} (h : makeR x y = true) : ∃ m : Nat, x = (m : Int) ∧ y * m ≤ 281474976710656 ∧ m ≤ maxLen := by
  simp only [makeR, Bool.and_eq_true, decide_eq_true_eq] at h
  obtain ⟨⟨h0, h1⟩, h2⟩ := h
  refine ⟨x.toNat, by omega, ?_, by simp only [maxLen]; omega⟩
  have e : x = (x.toNat : Int) := by omega
  rw [e] at h1
  have : ((y * x.toNat : Nat) : Int) ≤ 281474976710656 := by rw [Int.natCast_mul]; exact h1
  omega
theorem run_makeOf {T : TypeId} {k k' : IntKind} {x y : Int} {v : Value} (hx : makeOf2 F n i e = some (T, k, x, k', y)) (h : (Instr.makeSlice T (.int k x) (.int k' y)).run P w = .ok v w') :
    (execOp e.eval (opOf F.B n i)).run P w = .ok (.value v) w' := by
  unfold makeOf2 at hx
  split at hx <;> first | (cases hx; done) | skip
  rename_i T' l c hop
  split at hx <;> first | (cases hx; done) | skip
  rename_i k1 x1 k2 y1 h1 h2
  simp only [Option.some.injEq, Prod.mk.injEq] at hx
  obtain ⟨rfl, rfl, rfl, rfl, rfl⟩ := hx
  unfold execOp
  simp [hop, h1, h2, h]
theorem made_cells {α : Type} {dd : Rp α} {z : α} {zc : List Value} {w : World} {M : Nat → Prop} (hz : dd.K w M z zc) : ∀ m : Nat, Cells dd w M (List.replicate m z) (madeCells zc.toArray (m * dd.sz)).toList
  | 0 => by simp [madeCells, Cells]
  | m + 1 => by
    have hl := dd.len hz
    refine ⟨zc, (madeCells zc.toArray (m * dd.sz)).toList, ?_, hz, made_cells hz m⟩
    apply List.ext_getElem?
    intro j
    simp only [madeCells, Array.toList_map, Array.toList_range, List.getElem?_map, List.getElem?_append]
    by_cases hj : j < zc.length
    · rw [if_pos hj]
      have h1 : j < (m + 1) * dd.sz := by rw [Nat.add_mul]; omega
      simp [h1, Nat.mod_eq_of_lt hj, hj]
    · rw [if_neg hj]
      by_cases h2 : j < (m + 1) * dd.sz
      · have h3 : j - zc.length < m * dd.sz := by rw [Nat.add_mul] at h2; omega
        have hm : j % zc.length = (j - zc.length) % zc.length := Nat.mod_eq_sub_mod (by omega)
        simp [h2, h3, hm]
      · have h3 : ¬ j - zc.length < m * dd.sz := by rw [Nat.add_mul] at h2; omega
        rw [List.getElem?_eq_none (by simpa using h2), List.getElem?_eq_none (by simpa using h3)]
def zeroOf (P : Program) (E : TypeId) : Option (List Value) := (P.info? E).bind fun i => i.zero.map fun z => z.cells.toList
theorem OpE.makeAll (d : Nat) (T E : TypeId) (y : Nat) (zc : List Value) {k k' : IntKind} {x : Int} {α : Type} (dd : Rp α) (z0 : α) (hH : Holds M0 w0 w H) (ho : opOk F n i e d = true) (hx : makeOf2 F n i e = some (T, k, x, k', x)) (hT : elemOf' P T = some (E, dd.sz, y)) (hz0 : zeroOf P E = some zc)
    (h : makeR x y = true) (hzc : ∀ w M, dd.K w M z0 zc)
    (hn : ∀ w' A c, Holds M0 w0 w' (H ++ [own dd E (.slice A (List.replicate x.toNat z0).length c) (List.replicate x.toNat z0)]) → Below w.heap.size w w' → K ((d, .slice A (List.replicate x.toNat z0).length c) :: e) w') : OpE F n i e w K := by
  obtain ⟨hu, inf, z, h1, hz, h3, h4, h5⟩ := elemOf_spec hT
  obtain ⟨m, rfl, hb1, hb2⟩ := makeR_spec h
  obtain ⟨w', hr, h6, h7⟩ := run_make_full (P := P) w 0 T E inf z dd.sz hu h1 hz h3 k k' m (by rw [h4]; exact hb1) hb2 (Nat.zero_le _)
  have hlt : w.heap.size < w'.heap.size ∨ m = 0 := by
    rcases h6.2 with ⟨hv, _⟩ | ⟨g, cap, cur, hv, _, hg, _⟩
    · cases hv
    · simp only [Value.slice.injEq, Option.some.injEq, Addr.mk.injEq] at hv
      obtain ⟨⟨rfl, _⟩, _⟩ := hv
      exact .inl (Array.getElem?_eq_some_iff.1 hg).1
  have hlt : w.heap.size < w'.heap.size := by
    rcases h6.2 with ⟨hv, _⟩ | ⟨g, cap, cur, hv, _, hg, _⟩
    · cases hv
    · simp only [Value.slice.injEq, Option.some.injEq, Addr.mk.injEq] at hv
      obtain ⟨⟨rfl, _⟩, _⟩ := hv
      exact (Array.getElem?_eq_some_iff.1 hg).1
  have hzz : z.cells = zc.toArray := by
    simp [zeroOf, h1, hz] at hz0
    subst hz0
    simp
  rw [hzz] at h6
  have hlen : (List.replicate ((m : Int)).toNat z0).length = m := by simp
  have hH' := hH.newOwn (d := dd) (E := E) (v := .slice (some ⟨w.heap.size, 0, none⟩) m m) (xs := List.replicate ((m : Int)).toNat z0) (cells := (madeCells zc.toArray (m * dd.sz)).toList) rfl (Nat.le_refl _) hlt (by rw [hlen]; exact h6) h7
    (fun _ _ => by simpa using made_cells (hzc _ _) m)
  have := hn w' (some ⟨w.heap.size, 0, none⟩) m (by rw [hlen]; exact hH') ((Below.refl _ _).grown h7 (Nat.le_refl _) (by simp))
  rw [hlen] at this
  exact OpE.run d ho (run_makeOf hx hr) this

def strOf (ns : List Int) : ByteArray := ns.foldl (fun r n => r.push (UInt8.ofNat n.toNat)) ByteArray.empty
def convOf (F : Fun P) (n i : Nat) (e : Env) : Option (TypeId × TypeId × Value) :=
  match (opOf F.B n i).op with
  | .convert s d x => some (s, d, e.eval x)
  | _ => none
def bytesTy (P : Program) (s d : TypeId) : Bool :=
  match P.underlying s, P.underlying d with
  | some (.slice E), some .string => (match P.underlying E with | some (.int .u8) => true | _ => false)
  | _, _ => false
theorem cells_ints {k : IntKind} {w : World} {M : Nat → Prop} : ∀ {xs : List Int} {cs : List Value}, Cells (Rp.int k) w M xs cs → cs = xs.map (Value.int k)
  | [], cs, h => h
  | x :: xs, cs, ⟨c1, c2, h, hk, hr⟩ => by
    rw [h, show c1 = [.int k x] from hk, cells_ints hr]
    rfl
theorem run_toStr {s d : TypeId} {v : Value} {xs : List Int} {M : Nat → Prop} (hx : convOf F n i e = some (s, d, v)) (ht : bytesTy P s d = true) (h : Rd (Rp.int .u8) w M v xs) : (execOp e.eval (opOf F.B n i)).run P w = .ok (.value (.string (strOf xs))) w := by
  unfold bytesTy at ht
  split at ht <;> first | (cases ht; done) | skip
  rename_i E hs hd
  split at ht <;> first | (cases ht; done) | skip
  rename_i he
  obtain ⟨A, c, rfl, hp⟩ := h
  have hconv := run_convert_bytes_string w s d E A xs.length c hs he hd
  have hstr : (Conv.bytesToString (.slice A xs.length c)).run P w = .ok (.string (strOf xs)) w := by
    by_cases h0 : 0 < xs.length
    · obtain ⟨a, news, rfl, hc, hm⟩ := hp h0
      have hnews := cells_ints hc
      subst hnews
      refine run_bytesToString w a xs.length c xs ?_
      have := run_loadCells_list (P := P) w a (xs.map (Value.int .u8)) hm
      simpa using this
    · have hx0 : xs = [] := List.eq_nil_of_length_eq_zero (by omega)
      subst hx0
      cases A with
      | none => simp [Conv.bytesToString, strOf]
      | some a =>
        refine run_bytesToString w a 0 c [] ?_
        have := run_loadCells_list (P := P) w a [] (fun j u h => by simp at h)
        simpa using this
  rw [hstr] at hconv
  unfold convOf at hx
  split at hx <;> first | (cases hx; done) | skip
  rename_i s' d' x hop
  simp only [Option.some.injEq, Prod.mk.injEq] at hx
  obtain ⟨rfl, rfl, hv⟩ := hx
  unfold execOp
  simp [hop, hv, hconv]
end
section
variable {P : Program} {F : Fun P} {k : List It} {e : Env} {w w' ws w0 : World} {R : Ending → World → Prop} {n i m : Nat} {l : List Nat} {M0 : Nat → Prop} {H : List Chunk} {T : List Nat}
theorem AnyE.run (i d : Nat) (v : Value) (ho : takeOk F n l i d e = true) (hS : Kp T ws w) (hy : ∀ w, Kp T ws w → (execOp e.eval (opOf F.B n i)).run P w = .ok (.value v) w) (hn : AnyE F n k (Kp T ws) m (i :: l) ((d, v) :: e) w R) : AnyE F n k (Kp T ws) (m + 1) l e w R :=
  AnyE.take i d v Kp.sup ho hS (fun w h => .inl (hy w h)) hn
theorem Holds.rdSlI {α : Type} (h : Holds M0 w0 ws H) (is : List Nat) (hT : mines (Eng.pick H is) = T) (hk : Kp T ws w') (c : Nat) {d : Rp α} {v : Value} {xs : List α} (hi : H[c]? = some (sl d v xs)) (hc : is.elem c = false) : Rd d w' (Mset M0 H) v xs := Sl.rd (h.atI is hT hk c hi hc)
theorem AnyE.idxOwn (i d c : Nat) (T0 E : TypeId) (ix : Int) {α : Type} {dd : Rp α} {b lx cp : Nat} {xs : List α} (h : Holds M0 w0 ws H) (ho : takeOk F n l i d e = true) (hS : Kp T ws w) (hi : H[c]? = some (own dd E (.slice (some ⟨b, 0, none⟩) lx cp) xs))
    (hx : idxOf F n i e = some (T0, .slice (some ⟨b, 0, none⟩) lx cp, ix)) (hT : elemSz P T0 = some dd.sz) (hr : inR ix xs.length = true)
    (hn : AnyE F n k (Kp T ws) m (i :: l) ((d, .pointer (some ⟨b, ix.toNat * dd.sz, none⟩)) :: e) w R) : AnyE F n k (Kp T ws) (m + 1) l e w R := by
  obtain ⟨h0, h1⟩ := inR_spec hr
  obtain ⟨A, c', hv⟩ := own_form (h.get c hi)
  simp only [Value.slice.injEq] at hv
  obtain ⟨_, rfl, _⟩ := hv
  refine AnyE.take i d _ Kp.sup ho hS (fun w _ => .inl ?_) hn
  have := run_idx (w := w) hx hT h0 h1
  rwa [Nat.zero_add] at this
theorem AnyE.loadOwn (i d c : Nat) (T0 E : TypeId) (ix : Int) (q : Nat) (v : Value) (is : List Nat) {α : Type} [Inhabited α] {dd : Rp α} {b o lx cp : Nat} {xs : List α} (h : Holds M0 w0 ws H) (hT : mines (Eng.pick H is) = T) (ho : takeOk F n l i d e = true) (hS : Kp T ws w)
    (hi : H[c]? = some (own dd E (.slice (some ⟨b, 0, none⟩) lx cp) xs)) (hc : is.elem c = false) (hl : loadOf F n i e = some (T0, ⟨b, o, none⟩)) (hoq : o = ix.toNat * dd.sz + q) (hr : inR ix xs.length = true)
    (hv : ∀ w cs, dd.K w (Mset M0 H) (rdD xs ix) cs → loadV P T0 (cs.drop q) = some v) (hn : AnyE F n k (Kp T ws) m (i :: l) ((d, v) :: e) w R) : AnyE F n k (Kp T ws) (m + 1) l e w R :=
  AnyE.take i d v Kp.sup ho hS (fun w hk => .inl (by
    obtain ⟨cs, h1, h2⟩ := own_at (h.atI is hT hk c hi hc) hr
    refine run_load T0 hl (cs := cs.drop q) (fun j u hu => ?_) (hv w cs h1)
    subst hoq
    rw [List.getElem?_drop] at hu
    rw [Nat.add_assoc]
    exact h2 _ u hu)) hn
end
#print axioms AnyE.loadOwn
end Go.Eng
namespace Go.Eng
section
variable {P : Program} {F : Fun P} {k : List It} {e : Env} {w : World} {R : Ending → World → Prop} {n i : Nat} {todo : List It}
theorem RunsI.is (e' : Env) (h : e = e') (hn : RunsI F todo e' w R) : RunsI F todo e w R := h ▸ hn
theorem RegI.is (e' : Env) (h : e = e') (hn : RegI F n k i e' w R) : RegI F n k i e w R := h ▸ hn
theorem R_is {R : Ending → World → Prop} {v v' : Value} (h : v = v') (hn : R (.returned v') w) : R (.returned v) w := h ▸ hn
end
end Go.Eng
namespace Go.Eng
section
variable {M0 M : Nat → Prop} {w0 w w' : World} {H H2 : List Chunk}
theorem mines_app (H H2 : List Chunk) : mines (H ++ H2) = mines H ++ mines H2 := by simp [mines]
theorem Holds.join (h : Holds M0 w0 w H) (hr : Holds (Mset M0 H) w w' H2) : Holds M0 w0 w' (H ++ H2) := by
  have hM : Mset (Mset M0 H) H2 = Mset M0 (H ++ H2) := by
    funext b
    simp only [Mset, mines_app, List.mem_append, or_assoc]
  have hb := hr.below
  refine ⟨h.below.trans (hb.mono h.below.size), h.old, fun c hc => ?_, fun b hm => ?_, ?_⟩
  · rcases List.mem_append.1 hc with hc | hc
    · refine c.keep hb.size (fun b hlt _ => hb.block b hlt) (fun b hlt hm => ?_) (h.ok c hc)
      rcases hm with hm | hm
      · exact .inl hm
      · rw [mines_app] at hm
        rcases List.mem_append.1 hm with hm | hm
        · exact .inr hm
        · have := (hr.mine b hm).1; omega
    · rw [← hM]
      exact hr.ok c hc
  · rw [mines_app] at hm
    rcases List.mem_append.1 hm with hm | hm
    · exact ⟨(h.mine b hm).1, Nat.lt_of_lt_of_le (h.mine b hm).2 hb.size⟩
    · exact ⟨Nat.le_trans h.below.size (hr.mine b hm).1, (hr.mine b hm).2⟩
  · rw [mines_app]
    refine List.nodup_append.2 ⟨h.nodup, hr.nodup, fun a ha b hbm hab => ?_⟩
    subst hab
    have h1 := (h.mine a ha).2
    have h2 := (hr.mine a hbm).1
    omega
def FlatL : List Chunk → Prop
  | [] => True
  | c :: r => (∀ (w : World) (M M' : Nat → Prop), c.ok w M → c.ok w M') ∧ FlatL r
theorem FlatL.mem : ∀ {L : List Chunk}, FlatL L → ∀ c ∈ L, ∀ (w : World) (M M' : Nat → Prop), c.ok w M → c.ok w M'
  | c :: r, h, x, hx => by
    rcases List.mem_cons.1 hx with rfl | hx
    · exact h.1
    · exact FlatL.mem h.2 x hx
theorem cells_flat {α : Type} {d : Rp α} (hd : ∀ w M M' x cs, d.K w M x cs → d.K w M' x cs) {w : World} {M M' : Nat → Prop} : ∀ {xs : List α} {cs : List Value}, Cells d w M xs cs → Cells d w M' xs cs
  | [], _, h => h
  | _ :: _, _, ⟨c1, c2, h, hk, hr⟩ => ⟨c1, c2, h, hd _ _ _ _ _ hk, cells_flat hd hr⟩
theorem own_flat {α : Type} {d : Rp α} (hd : ∀ w M M' x cs, d.K w M x cs → d.K w M' x cs) {E : TypeId} {v : Value} {xs : List α} : ∀ (w : World) (M M' : Nat → Prop), (own d E v xs).ok w M → (own d E v xs).ok w M' :=
  fun _ _ _ ⟨cells, ho, hc⟩ => ⟨cells, ho, cells_flat hd hc⟩
theorem Holds.anyM (hr : Holds M0 w w' H2) (hf : FlatL H2) (M : Nat → Prop) (hM : ∀ b, M b → b < w.heap.size) : Holds M w w' H2 :=
  ⟨hr.below, hM, fun c hc => hf.mem c hc _ _ _ (hr.ok c hc), hr.mine, hr.nodup⟩
end
#print axioms Holds.join
end Go.Eng
namespace Go.Eng
section
variable {P : Program} {F : Fun P} {k : List It} {e e' : Env} {w w' w0 : World} {R : Ending → World → Prop} {n i : Nat} {M0 : Nat → Prop} {H : List Chunk} {K : Env → World → Prop}
theorem Cells.take {α : Type} {d : Rp α} {w : World} {M : Nat → Prop} : ∀ {xs : List α} {cs : List Value} (k : Nat), Cells d w M xs cs → Cells d w M (xs.take k) (cs.take (k * d.sz))
  | [], cs, k, h => by rw [show cs = [] from h]; simp [Cells]
  | x :: xs, cs, 0, h => by simp [Cells]
  | x :: xs, _, k + 1, ⟨c1, c2, h, hk, hr⟩ => by
    subst h
    refine ⟨c1, c2.take (k * d.sz), ?_, hk, Cells.take k hr⟩
    have hl := d.len hk
    rw [show (k + 1) * d.sz = c1.length + k * d.sz by rw [hl, Nat.add_mul]; omega, List.take_length_add_append]
theorem OpE.cutOwn (dst c : Nat) (T E : TypeId) (hi : Option Int) {α : Type} {d : Rp α} {A : Option Addr} {l cp : Nat} {xs : List α} (hH : Holds M0 w0 w H) (ho : opOk F n i e dst = true) (hi' : H[c]? = some (own d E (.slice A l cp) xs))
    (hx : cutOf F n i e = some (T, .slice A l cp, none, hi)) (hT : elemSz P T = some d.sz) (h : cutR 0 (hi.getD l) xs.length = true)
    (hn : ∀ A2 c2, Holds M0 w0 w (H.set c (own d E (.slice A2 (cutL xs 0 (hi.getD l)).length c2) (cutL xs 0 (hi.getD l)))) → K ((dst, .slice A2 (cutL xs 0 (hi.getD l)).length c2) :: e) w) : OpE F n i e w K := by
  simp only [cutR, Bool.and_eq_true, decide_eq_true_eq] at h
  obtain ⟨⟨_, h1⟩, h2⟩ := h
  obtain ⟨cells, hown, hc⟩ := hH.get c hi'
  have hlx : l = xs.length := by
    obtain ⟨A1, c1, hv⟩ := own_form (hH.get c hi')
    simp only [Value.slice.injEq] at hv
    exact hv.2.1
  subst hlx
  obtain ⟨kk, hkk⟩ : ∃ kk : Nat, hi.getD (xs.length : Int) = (kk : Int) := ⟨(hi.getD (xs.length : Int)).toNat, by omega⟩
  have hk2 : kk ≤ xs.length := by omega
  have hcut : cutL xs 0 (hi.getD (xs.length : Int)) = xs.take kk := by rw [hkk]; simp [cutL]
  have hlen : (xs.take kk).length = kk := by simp; omega
  have hle : xs.length ≤ cp := by
    rcases hown.2 with ⟨hv, h0⟩ | ⟨g, cap, cur, hv, _, _, hle, _⟩
    · omega
    · simp only [Value.slice.injEq] at hv; omega
  have hrun := run_cut (w := w) hx hT (by simp) (by simpa using h1) h2 hle
  simp only [Option.getD_none, Int.toNat_zero, Nat.zero_mul, Nat.sub_zero, hkk, Int.toNat_natCast] at hrun
  have hA : (if cp = 0 then A else A.map (·.add 0)) = A := by
    rcases hown.2 with ⟨hv, h0⟩ | ⟨g, cap, cur, hv, _⟩
    · simp only [Value.slice.injEq] at hv
      rw [hv.1]; simp
    · simp only [Value.slice.injEq] at hv
      rw [hv.1]; simp [Addr.add_lit]
  rw [hA] at hrun
  have hnew : Holds M0 w0 w (H.set c (own d E (.slice A (xs.take kk).length cp) (xs.take kk))) := by
    refine hH.turn c hi' hH.below (Nat.le_refl _) (fun _ _ _ => rfl) (fun b hb => .inl (by cases A with | none => simp [own, Value.ownBlock] at hb | some a => simpa [own, Value.ownBlock] using hb)) (by cases A <;> simp [own, Value.ownBlock]) (fun hM => ⟨cells.take (kk * d.sz), ?_, (hc.take kk).keep (Nat.le_refl _) (fun _ _ _ => rfl) hM⟩)
    have hcl := hown.1
    refine ⟨by rw [hlen, List.length_take, hcl]; exact Nat.min_eq_left (Nat.mul_le_mul_right _ hk2), ?_⟩
    rcases hown.2 with ⟨hv, h0⟩ | ⟨g, cap, cur, hv, hb, hg, hnc, hcm, hcs, htk⟩
    · simp only [Value.slice.injEq] at hv
      obtain ⟨rfl, _, rfl⟩ := hv
      left
      have : (xs.take kk).length = 0 := by omega
      exact ⟨by rw [this], this⟩
    · simp only [Value.slice.injEq] at hv
      obtain ⟨rfl, _, rfl⟩ := hv
      refine .inr ⟨g, cp, cur, rfl, hb, hg, by omega, hcm, hcs, ?_⟩
      rw [hlen, ← htk, List.take_take, Nat.min_eq_left (Nat.mul_le_mul_right _ hk2)]
  rw [← hcut] at hnew
  refine OpE.run dst ho ?_ (hn A cp hnew)
  rw [hcut, hlen]
  exact hrun
end
#print axioms OpE.cutOwn
end Go.Eng
namespace Go.Eng
section
variable {P : Program} {F : Fun P} {k : List It} {e e' : Env} {w w' w0 : World} {R : Ending → World → Prop} {n i : Nat} {M0 : Nat → Prop} {H : List Chunk} {K : Env → World → Prop}
theorem OpE.run0 {v : Value} (ho : opOk0 F n i e = true) (hr : (execOp e.eval (opOf F.B n i)).run P w = .ok (.value v) w') (hn : K e w') : OpE F n i e w K := by
  obtain ⟨h1, h2, h3, h4⟩ := opOk0_spec ho
  intro Q a J ha hJ
  unfold wpOpIn
  simp only [at_op h1]
  rw [if_pos (wanted_agree ha h2)]
  refine wp_value (canAll_defer h3) ((congrArg (fun s => s.run P w) (exec_agree ha h3)).trans hr) ?_
  rw [h4]
  exact hJ _ _ _ hn (ha.put_none v)
def viewV (A : Option Addr) (l cp : Nat) (lo : Int) (sz : Nat) : Value := .slice (if cp = lo.toNat then A else A.map (·.add (lo.toNat * sz))) (l - lo.toNat) (cp - lo.toNat)
def clrD {α : Type} (xs : List α) (lo : Int) (z : α) : List α := xs.take lo.toNat ++ List.replicate (xs.length - lo.toNat) z
theorem clrD_length {α : Type} (xs : List α) (lo : Int) (z : α) (h : lo.toNat ≤ xs.length) : (clrD xs lo z).length = xs.length := by simp [clrD]; omega
def clearOf (F : Fun P) (n i : Nat) (e : Env) : Option (TypeId × Value) :=
  match (opOf F.B n i).op with
  | .call { callee := .builtin .clear, args := ⟨[s]⟩, argTypes := ⟨[t]⟩ } => some (t, e.eval s)
  | _ => none
theorem OpE.clearOwn (c : Nat) (T E : TypeId) (lo : Int) (y : Nat) (zc : List Value) {α : Type} (d : Rp α) (z0 : α) {A : Option Addr} {l cp : Nat} {xs : List α} (hH : Holds M0 w0 w H) (ho : opOk0 F n i e = true) (hi' : H[c]? = some (own d E (.slice A l cp) xs))
    (hx : clearOf F n i e = some (T, viewV A l cp lo d.sz)) (hT : elemOf' P T = some (E, d.sz, y)) (hz0 : zeroOf P E = some zc) (hzc : ∀ w M, d.K w M z0 zc) (h : cutR lo (l : Int) xs.length = true)
    (hn : ∀ w' A2 c2, Holds M0 w0 w' (H.set c (own d E (.slice A2 (clrD xs lo z0).length c2) (clrD xs lo z0))) → A2 = A → c2 = cp → Kp (Value.slice A l cp).ownBlock.toList w w' → K e w') : OpE F n i e w K := by
  simp only [cutR, Bool.and_eq_true, decide_eq_true_eq] at h
  obtain ⟨⟨h0, h1⟩, h2⟩ := h
  obtain ⟨cells, hown, hc⟩ := hH.get c hi'
  obtain ⟨hu, inf, z, h3, hz, h4, h5, h6⟩ := elemOf_spec hT
  have hlx : l = xs.length := by
    obtain ⟨A1, c1, hv⟩ := own_form (hH.get c hi')
    simp only [Value.slice.injEq] at hv
    exact hv.2.1
  subst hlx
  have hk2 : lo.toNat ≤ xs.length := by omega
  have hlen := clrD_length xs lo z0 hk2
  have hrunOf : ∀ w', (Builtin.clear_ #[T] (opOf F.B n i).type #[viewV A xs.length cp lo d.sz]).run P w = .ok (.tuple #[]) w' → (execOp e.eval (opOf F.B n i)).run P w = .ok (.value (.tuple #[])) w' := fun w' hr => by
    unfold clearOf at hx
    split at hx <;> first | (cases hx; done) | skip
    rename_i s' t' hop
    simp only [Option.some.injEq, Prod.mk.injEq] at hx
    obtain ⟨rfl, hs⟩ := hx
    unfold execOp
    simp [hop, resolve, invoke, builtin, hs, hr]
  by_cases hfull : lo.toNat = xs.length
  · have hcl : clrD xs lo z0 = xs := by unfold clrD; rw [hfull]; simp
    have hset : H.set c (own d E (.slice A (clrD xs lo z0).length cp) (clrD xs lo z0)) = H := by
      rw [hcl]
      apply List.ext_getElem?
      intro j
      by_cases hj : c = j
      · subst hj
        rw [List.getElem?_set_self (List.getElem?_eq_some_iff.1 hi').1, hi']
      · rw [List.getElem?_set_ne hj]
    refine OpE.run0 ho (hrunOf w ?_) (hn w A cp (by rw [hset]; exact hH) rfl rfl ⟨Nat.le_refl _, fun _ _ _ => rfl⟩)
    unfold viewV
    rw [hfull, Nat.sub_self]
    generalize (if cp = xs.length then A else Option.map (fun x => x.add (xs.length * d.sz)) A) = A'
    cases A' <;> simp [Builtin.clear_, run_underlying hu]
  · rcases hown.2 with ⟨hv, hv0⟩ | ⟨g, cap, cur, hv, _, hgb, hnc, hcm, hcs, htk⟩
    · omega
    simp only [Value.slice.injEq] at hv
    obtain ⟨rfl, _, rfl⟩ := hv
    have hz2 : z.cells = zc.toArray := by
      simp [zeroOf, h3, hz] at hz0
      subst hz0
      simp
    have hzl : zc.length = d.sz := d.len (hzc w (fun _ => False))
    have hmade : Builtin.zeroCells z.cells (xs.length - lo.toNat) = madeCells zc.toArray ((xs.length - lo.toNat) * d.sz) := by
      rw [hz2]
      simp [Builtin.zeroCells, madeCells, hzl]
    have hcells := made_cells (hzc w (Mset M0 H)) (xs.length - lo.toNat)
    have hnl := hcells.len
    simp only [List.length_replicate] at hnl
    have hone := hcells.one
    have hszle : lo.toNat * d.sz + (xs.length - lo.toNat) * d.sz ≤ cp * d.sz := by
      rw [← Nat.add_mul]
      exact Nat.mul_le_mul_right _ (by omega)
    obtain ⟨nr, hnr⟩ : ∃ nr, nr = cur.toList.take (lo.toNat * d.sz) ++ (madeCells zc.toArray ((xs.length - lo.toNat) * d.sz)).toList ++ cur.toList.drop (lo.toNat * d.sz + (madeCells zc.toArray ((xs.length - lo.toNat) * d.sz)).toList.length) := ⟨_, rfl⟩
    have hst := run_storeCells_at P g (lo.toNat * d.sz) E (madeCells zc.toArray ((xs.length - lo.toNat) * d.sz)).toList 0 cur w hgb (by rw [hnl]; simpa [hcs] using hszle) hone
    simp only [Nat.add_zero, ← hnr] at hst
    have hzv : (zeroValue E).run P w = .ok z w := by simp [zeroValue, typeInfo, h3, hz]
    obtain ⟨q, hq⟩ : ∃ q, xs.length - lo.toNat = q + 1 := ⟨xs.length - lo.toNat - 1, by omega⟩
    have hrun : (Builtin.clear_ #[T] (opOf F.B n i).type #[viewV (some ⟨g, 0, none⟩) xs.length cp lo d.sz]).run P w = .ok (.tuple #[]) (w.setRow g nr.toArray) := by
      unfold viewV
      rw [if_neg (by omega)]
      simp only [Option.map_some, Addr.add_lit, Nat.zero_add]
      rw [← hmade] at hst
      simp only [hq] at hst ⊢
      simp [Builtin.clear_, run_underlying hu, hzv, hst]
    have hmem : g ∈ (own d E (.slice (some ⟨g, 0, none⟩) xs.length cp) xs).mine := by simp [own, Value.ownBlock]
    have hbm := hH.mine g (List.mem_flatMap.2 ⟨_, List.mem_of_getElem? hi', hmem⟩)
    refine OpE.run0 ho (hrunOf _ hrun) (hn (w.setRow g nr.toArray) _ _ (hH.turn c hi' (Below.setRow hH.below hbm.1 _) (by simp) (fun x _ hx => setRow_other w g x _ (fun e => hx (e ▸ hmem))) (fun x hx => .inl (by simpa [own, Value.ownBlock] using hx)) (by simp [own, Value.ownBlock]) (fun hM => ?_)) rfl rfl ⟨by simp, fun x _ hx => setRow_other w g x _ (by simpa [Value.ownBlock] using hx)⟩)
    have htake := hc.take lo.toNat
    have hcell2 := htake.append hcells
    have hnrlen : nr.length = cp * d.sz := by
      rw [hnr]
      simp only [List.length_append, List.length_take, List.length_drop, Array.length_toList, hcs, size_madeCells]
      omega
    refine ⟨cells.take (lo.toNat * d.sz) ++ (madeCells zc.toArray ((xs.length - lo.toNat) * d.sz)).toList, ⟨?_, .inr ⟨g, cp, _, by rw [hlen], Nat.zero_le _, setRow_heap w g cur _ E (0, 0) hgb, by rw [hlen]; exact hnc, hcm, by simpa using hnrlen, ?_⟩⟩, hcell2.keep (by simp) (fun x hx hxm => setRow_other w g x _ (fun e => hxm (.inr (List.mem_flatMap.2 ⟨_, List.mem_of_getElem? hi', e ▸ hmem⟩)))) hM⟩
    · exact hcell2.len
    · rw [hlen]
      have hl2 := hc.len
      have hll : lo.toNat * d.sz + (xs.length - lo.toNat) * d.sz = xs.length * d.sz := by rw [← Nat.add_mul]; congr 1; omega
      have hcut : cells.take (lo.toNat * d.sz) = cur.toList.take (lo.toNat * d.sz) := by rw [← htk, List.take_take, Nat.min_eq_left (by omega)]
      rw [hcut, hnr]
      simp only []
      have hlen3 : (cur.toList.take (lo.toNat * d.sz) ++ (madeCells zc.toArray ((xs.length - lo.toNat) * d.sz)).toList).length = xs.length * d.sz := by
        simp only [List.length_append, List.length_take, Array.length_toList, hcs, size_madeCells]
        omega
      rw [← hlen3]
      exact List.take_left
end
#print axioms OpE.clearOwn
end Go.Eng
namespace Go.Eng
def blkD (A : Option Addr) : Nat := match A with | some a => a.block | none => 0
section
variable {P : Program} {F : Fun P} {k : List It} {e e' : Env} {w w' ws w0 : World} {R : Ending → World → Prop} {n i m : Nat} {l : List Nat} {M0 : Nat → Prop} {H : List Chunk} {T : List Nat} {K : Env → World → Prop}
theorem OpE.idxOwnA (d c : Nat) (T E : TypeId) (ix : Int) {α : Type} {dd : Rp α} {A : Option Addr} {lx cp : Nat} {xs : List α} (hH : Holds M0 w0 w H) (ho : opOk F n i e d = true) (hi : H[c]? = some (own dd E (.slice A lx cp) xs))
    (hx : idxOf F n i e = some (T, .slice A lx cp, ix)) (hT : elemSz P T = some dd.sz) (h : inR ix xs.length = true)
    (hn : K ((d, .pointer (some ⟨blkD A, ix.toNat * dd.sz, none⟩)) :: e) w) : OpE F n i e w K := by
  obtain ⟨b, rfl⟩ := hH.ownSome c hi h
  exact OpE.idxOwn d c T E ix hH ho hi hx hT h hn
theorem OpE.loadOwnA (d c : Nat) (T E : TypeId) (ix : Int) (q : Nat) {α : Type} [Inhabited α] {dd : Rp α} {A : Option Addr} {o lx cp : Nat} {xs : List α} (hH : Holds M0 w0 w H) (ho : opOk F n i e d = true) (hi : H[c]? = some (own dd E (.slice A lx cp) xs))
    (hl : loadOf F n i e = some (T, ⟨blkD A, o, none⟩)) (hoq : o = ix.toNat * dd.sz + q) (h : inR ix xs.length = true) (hv : ∀ cs, dd.K w (Mset M0 H) (rdD xs ix) cs → ∃ v, loadV P T (cs.drop q) = some v ∧ K ((d, v) :: e) w) : OpE F n i e w K := by
  obtain ⟨b, rfl⟩ := hH.ownSome c hi h
  exact OpE.loadOwn d c T E ix q hH ho hi hl hoq h hv
theorem OpE.storeOwnA (c : Nat) (T E : TypeId) (ix : Int) (q : Nat) (v : Value) {α : Type} [Inhabited α] {dd : Rp α} {A : Option Addr} {o lx cp : Nat} {xs : List α} (x' : α) (hH : Holds M0 w0 w H) (ho : opOk0 F n i e = true) (hl : storeOf F n i e = some (T, ⟨blkD A, o, none⟩, v))
    (hi : H[c]? = some (own dd E (.slice A lx cp) xs)) (hoq : o = ix.toNat * dd.sz + q) (hf : fitsV P T v = true) (hle : Nat.ble (q + v.cells.toList.length) dd.sz = true) (h : inR ix xs.length = true)
    (hx : ∀ cs, dd.K w (Mset M0 H) (rdD xs ix) cs → dd.K w (Mset M0 H) x' (cs.take q ++ v.cells.toList ++ cs.drop (q + v.cells.toList.length)))
    (hn : ∀ w', Holds M0 w0 w' (H.set c (own dd E (.slice A lx cp) (stD xs ix x'))) → Kp (Value.slice A lx cp).ownBlock.toList w w' → K e w') : OpE F n i e w K := by
  obtain ⟨b, rfl⟩ := hH.ownSome c hi h
  exact OpE.storeOwn c T E ix q v x' hH ho hl hi hoq hf hle h hx hn
theorem AnyE.idxOwnA (i d c : Nat) (T0 E : TypeId) (ix : Int) {α : Type} {dd : Rp α} {A : Option Addr} {lx cp : Nat} {xs : List α} (h : Holds M0 w0 ws H) (ho : takeOk F n l i d e = true) (hS : Kp T ws w) (hi : H[c]? = some (own dd E (.slice A lx cp) xs))
    (hx : idxOf F n i e = some (T0, .slice A lx cp, ix)) (hT : elemSz P T0 = some dd.sz) (hr : inR ix xs.length = true)
    (hn : AnyE F n k (Kp T ws) m (i :: l) ((d, .pointer (some ⟨blkD A, ix.toNat * dd.sz, none⟩)) :: e) w R) : AnyE F n k (Kp T ws) (m + 1) l e w R := by
  obtain ⟨b, rfl⟩ := h.ownSome c hi hr
  exact AnyE.idxOwn i d c T0 E ix h ho hS hi hx hT hr hn
theorem AnyE.loadOwnA (i d c : Nat) (T0 E : TypeId) (ix : Int) (q : Nat) (v : Value) (is : List Nat) {α : Type} [Inhabited α] {dd : Rp α} {A : Option Addr} {o lx cp : Nat} {xs : List α} (h : Holds M0 w0 ws H) (hT : mines (Eng.pick H is) = T) (ho : takeOk F n l i d e = true) (hS : Kp T ws w)
    (hi : H[c]? = some (own dd E (.slice A lx cp) xs)) (hc : is.elem c = false) (hl : loadOf F n i e = some (T0, ⟨blkD A, o, none⟩)) (hoq : o = ix.toNat * dd.sz + q) (hr : inR ix xs.length = true)
    (hv : ∀ w cs, dd.K w (Mset M0 H) (rdD xs ix) cs → loadV P T0 (cs.drop q) = some v) (hn : AnyE F n k (Kp T ws) m (i :: l) ((d, v) :: e) w R) : AnyE F n k (Kp T ws) (m + 1) l e w R := by
  obtain ⟨b, rfl⟩ := h.ownSome c hi hr
  exact AnyE.loadOwn i d c T0 E ix q v is h hT ho hS hi hc hl hoq hr hv hn
end
section
variable {P : Program} {F : Fun P} {k todo todo' : List It} {e : Env} {w : World} {R : Ending → World → Prop} {n i : Nat}
theorem RegI.p (m : Nat) (e' : Env) (hn : RegI F n k (i + m) e' w R) (h : evalKeep P F.N (opsOf F.B n) (((opsOf F.B n).toList.drop i).take m) e w (e'.map Prod.fst) = some (e', w) := by kernel_rfl) : RegI F n k i e w R := RegI.pure m _ e' h hn
theorem RegI.d (hn : RunsI F k e w R) (h : Nat.ble (opsOf F.B n).size i = true := by kernel_rfl) : RegI F n k i e w R := RegI.done h hn
theorem RegI.o (h : OpE F n i e w (fun e' w' => RegI F n k (i + 1) e' w' R)) (hlt : Nat.blt i (opsOf F.B n).size = true := by kernel_rfl) : RegI F n k i e w R := RegI.op hlt h
theorem RegI.f (t : Nat) {c : Bool} (b : Bool) (hc : c = b) (hn : RegI F n k i ((t, .bool b) :: e) w R) (hh : e.has t = true := by kernel_rfl) (hv : e.get t = .bool c := by kernel_rfl) : RegI F n k i e w R := RegI.fix t b hc hh hv hn
theorem RegI.l (live : List Nat) (e' : Env) (hn : RegI F n k i e' w R) (hl : live.all e.has = true := by kernel_rfl) (he : e.only live = e' := by kernel_rfl) : RegI F n k i e w R := RegI.only live e' hl he hn
theorem RunsI.r (hn : RegI F n k 0 e w R) (h : isRegion F.B n false = true := by kernel_rfl) : RunsI F (.c n :: k) e w R := RunsI.region h hn
theorem RunsI.g (m : Nat) (todo' : List It) (hn : RunsI F todo' e w R) (h : goIt F.B m todo = some todo' := by kernel_rfl) : RunsI F todo e w R := RunsI.go m todo' h hn
theorem RunsI.b (b : Bool) (m : Nat) (hn : RunsI F (.c m :: k) e w R) (h : condOk F.B n e b = some m := by kernel_rfl) : RunsI F (.c n :: k) e w R := RunsI.cond b m h hn
theorem RunsI.f (t : Nat) {c : Bool} (b : Bool) (hc : c = b) (hn : RunsI F todo ((t, .bool b) :: e) w R) (hh : e.has t = true := by kernel_rfl) (hv : e.get t = .bool c := by kernel_rfl) : RunsI F todo e w R := RunsI.fix t b hc hh hv hn
theorem RunsI.l (live : List Nat) (e' : Env) (hn : RunsI F todo e' w R) (hl : live.all e.has = true := by kernel_rfl) (he : e.only live = e' := by kernel_rfl) : RunsI F todo e w R := RunsI.only live e' hl he hn
theorem RunsI.t (v : Value) (hR : R (.returned v) w) (hr : isRet F.B todo = true := by kernel_rfl) (h : resultsE F.fn e = some v := by kernel_rfl) (hro : F.ro = none := by rfl) (hds : F.ds = [] := by rfl) : RunsI F todo e w R := RunsI.ret v hr h hR hro hds
end
end Go.Eng
