/- The engine's cuts with a bound on what is behind them, and texts as rows of bytes. -/
import Derived.Test.YtbcepghanbkncaaDoorEngSort
import Derived.Laws.IdiomStrings
set_option linter.unusedVariables false
set_option linter.unusedSimpArgs false
set_option linter.unusedSectionVars false
namespace Go.Eng
open Go.RowKit
section
variable {P : Program} {F : Fun P} {k : List It} {e e' : Env} {w w' w0 ws : World} {R : Ending → World → Prop} {n i m c : Nat} {M0 : Nat → Prop} {H : List Chunk} {K : Env → World → Prop} {T : List Nat} {l : List Nat}
def cutMOf (F : Fun P) (n i : Nat) (e : Env) : Option (TypeId × Value × Int × Int × Int) :=
  match (opOf F.B n i).op with
  | .slice T x (some lo) (some hi) (some mx) => (match e.eval lo, e.eval hi, e.eval mx with | .int _ a, .int _ b, .int _ c => some (T, e.eval x, a, b, c) | _, _, _ => none)
  | _ => none
theorem run_cutM {T0 : TypeId} {A : Option Addr} {len cap s : Nat} {lo hi : Int} (hx : cutMOf F n i e = some (T0, .slice A len cap, lo, hi, hi)) (hT : elemSz P T0 = some s) (h0 : 0 ≤ lo) (h1 : lo ≤ hi) (h2 : hi ≤ (len : Int)) (hc : len ≤ cap) :
    (execOp e.eval (opOf F.B n i)).run P w = .ok (.value (.slice (if hi.toNat = lo.toNat then A else A.map (·.add (lo.toNat * s))) (hi.toNat - lo.toNat) (hi.toNat - lo.toNat))) w := by
  unfold cutMOf at hx
  split at hx
  · next T' x a b c hop =>
    split at hx
    · next k1 y1 k2 y2 k3 y3 e1 e2 e3 =>
      simp only [Option.some.injEq, Prod.mk.injEq] at hx
      obtain ⟨rfl, hv, rfl, hb2, hb3⟩ := hx
      subst hb2
      have hb4 : y2 = y3 := hb3.symm
      subst hb4
      unfold elemSz at hT
      cases hu : P.underlying T' with
      | none => simp [hu] at hT
      | some dd =>
        cases dd <;> simp only [hu] at hT <;> first | (cases hT; done) | skip
        rename_i E
        cases hi' : P.info? E with
        | none => simp [hi'] at hT
        | some inf =>
          simp only [hi', Option.map_some, Option.some.injEq] at hT
          subst hT
          have g1 : 0 ≤ y2 := by omega
          have g2 : y2 ≤ (cap : Int) := by omega
          have g3 : (y2.toNat : Int) = y2 := Int.toNat_of_nonneg g1
          have hrun : (Instr.sliceAt T' (.slice A len cap) (some (.int k1 y1)) (some (.int k2 y2)) (some (.int k3 y2))).run P w = .ok (.slice (if y2.toNat = y1.toNat then A else A.map (·.add (y1.toNat * inf.size))) (y2.toNat - y1.toNat) (y2.toNat - y1.toNat)) w := by
            simp [Instr.sliceAt, Instr.slice, run_underlying hu, Instr.sliceBounds, Instr.sliceBound, asIntOf, sizeOf, typeInfo, hi', h0, h1, g1, g2, g3]
          unfold execOp
          simp [hop, hv, e1, e2, e3, hrun]
    · cases hx
  · cases hx
theorem Holds.cutM {α : Type} {dd : Rp α} {v : Value} {xs : List α} (hH : Holds M0 w0 w H) (c : Nat) (T0 : TypeId) (lo hi : Int) (hi' : H[c]? = some (sl dd v xs)) (hx : cutMOf F n i e = some (T0, v, lo, hi, hi)) (hT : elemSz P T0 = some dd.sz) (h : cutR lo hi xs.length = true) :
    ∃ A cp, Holds M0 w0 w (H ++ [sl dd (.slice A (cutL xs lo hi).length cp) (cutL xs lo hi)]) ∧ ∀ w2, (execOp e.eval (opOf F.B n i)).run P w2 = .ok (.value (.slice A (cutL xs lo hi).length cp)) w2 := by
  simp only [cutR, Bool.and_eq_true, decide_eq_true_eq] at h
  obtain ⟨⟨h0, h1⟩, h2⟩ := h
  have hsl : Sl dd w (Mset M0 H) v xs := hH.get c hi'
  obtain ⟨A, cp, hv, hl, hcm, hnn, hp⟩ := id hsl
  have hcut := hsl.cut hv lo.toNat hi.toNat (by omega) (by omega)
  have hlen : (cutL xs lo hi).length = hi.toNat - lo.toNat := by simp [cutL]; omega
  rw [hv] at hx
  have hrun := fun w2 => run_cutM (w := w2) hx hT h0 h1 h2 hl
  have e0 : (xs.take hi.toNat).drop lo.toNat = cutL xs lo hi := rfl
  rw [e0] at hcut
  rw [← hlen] at hrun hcut
  refine ⟨_, _, hH.addSl dd _ _ ?_, hrun⟩
  by_cases hz : hi.toNat = lo.toNat
  · rw [if_pos hz]
    have hnil : cutL xs lo hi = [] := List.eq_nil_of_length_eq_zero (by omega)
    rw [hnil]
    exact ⟨A, 0, rfl, Nat.le_refl _, Nat.zero_le _, fun _ => ⟨rfl, rfl⟩, fun h => absurd h (by simp)⟩
  · rw [if_neg hz]
    rw [if_neg (show ¬ cp = lo.toNat by omega)] at hcut
    exact Sl.recap hcut
theorem OpE.cutSlM (d c : Nat) (T0 : TypeId) (lo hi : Int) {α : Type} {dd : Rp α} {v : Value} {xs : List α} (hH : Holds M0 w0 w H) (ho : opOk F n i e d = true) (hi' : H[c]? = some (sl dd v xs)) (hx : cutMOf F n i e = some (T0, v, lo, hi, hi)) (hT : elemSz P T0 = some dd.sz) (h : cutR lo hi xs.length = true)
    (hn : ∀ A cp, Holds M0 w0 w (H ++ [sl dd (.slice A (cutL xs lo hi).length cp) (cutL xs lo hi)]) → K ((d, .slice A (cutL xs lo hi).length cp) :: e) w) : OpE F n i e w K := by
  obtain ⟨A, cp, h2, h3⟩ := hH.cutM c T0 lo hi hi' hx hT h
  exact OpE.run d ho (h3 w) (hn A cp h2)
theorem AnyE.cutSlM (i d c : Nat) (T0 : TypeId) (lo hi : Int) {α : Type} {dd : Rp α} {v : Value} {xs : List α} (h : Holds M0 w0 ws H) (ho : takeOk F n l i d e = true) (hS : Kp T ws w) (hi' : H[c]? = some (sl dd v xs)) (hx : cutMOf F n i e = some (T0, v, lo, hi, hi)) (hT0 : elemSz P T0 = some dd.sz) (hr : cutR lo hi xs.length = true)
    (hn : ∀ A cp, Holds M0 w0 ws (H ++ [sl dd (.slice A (cutL xs lo hi).length cp) (cutL xs lo hi)]) → AnyE F n k (Kp T ws) m (i :: l) ((d, .slice A (cutL xs lo hi).length cp) :: e) w R) : AnyE F n k (Kp T ws) (m + 1) l e w R := by
  obtain ⟨A, cp, h2, h3⟩ := h.cutM c T0 lo hi hi' hx hT0 hr
  exact AnyE.take i d _ Kp.sup ho hS (fun w _ => .inl (h3 w)) (hn A cp h2)
/-! ### A text as a row of bytes -/
def bytesI (s : ByteArray) : List Int := s.data.toList.map fun b => (b.toNat : Int)
theorem bytesI_len (s : ByteArray) : (bytesI s).length = s.size := by unfold bytesI; rw [List.length_map, Array.length_toList]; rfl
def bytesTy2 (P : Program) (s d : TypeId) : Option TypeId := match P.underlying s, P.underlying d with | some .string, some (.slice e) => (match P.underlying e with | some (.int .u8) => some e | _ => none) | _, _ => none
theorem OpE.bytesOf (d : Nat) (S D : TypeId) (s : ByteArray) (hH : Holds M0 w0 w H) (ho : opOk F n i e d = true) (hx : convOf F n i e = some (S, D, .string s)) (ht : (bytesTy2 P S D).isSome = true) (hs : Nat.ble s.size 140737488355328 = true)
    (hn : ∀ w' A c, Holds M0 w0 w' (H ++ [sl (Rp.int .u8) (.slice A (bytesI s).length c) (bytesI s)]) → Below w.heap.size w w' → K ((d, .slice A (bytesI s).length c) :: e) w') : OpE F n i e w K := by
  obtain ⟨E, hS, hD, hE⟩ : ∃ E, P.underlying S = some .string ∧ P.underlying D = some (.slice E) ∧ P.underlying E = some (.int .u8) := by
    unfold bytesTy2 at ht
    split at ht
    · next E h1 h2 =>
      split at ht
      · next h3 => exact ⟨E, h1, h2, h3⟩
      · cases ht
    · cases ht
  have hr := run_bytes_of_string (P := P) w S D E s hS hD hE
  have hge := grownCap_ge w s.size 0 E
  have hle := grownCap_le_maxLen w s.size 0 E (by have := Nat.le_of_ble_eq_true hs; unfold maxLen; omega)
  generalize grownCap w s.size 0 E = cap at hr hge hle
  generalize hW : w.drew.alloc (.cells (bytesRow s cap) E ((bytesRow s cap).size, (bytesRow s cap).size + 1)) = W at hr
  have hB : Below w.heap.size w W := by rw [← hW]; exact (Below.refl w.heap.size w).drew.alloc (Nat.le_refl _) _
  have hcell : W.heap[w.heap.size]? = some (.cells (bytesRow s cap) E ((bytesRow s cap).size, (bytesRow s cap).size + 1)) := by rw [← hW]; exact heap_alloc_new w.drew _
  have hsz : W.heap.size = w.heap.size + 1 := by rw [← hW]; simp
  have hH1 := hH.call hB
  have hnm : ¬ Mset M0 H w.heap.size := by
    rintro (hm | hm)
    · have := hH.old _ hm; have := hH.below.size; omega
    · have := (hH.mine _ hm).2; omega
  have hsl : Sl (Rp.int .u8) W (Mset M0 H) (.slice (some ⟨w.heap.size, 0, none⟩) (bytesI s).length cap) (bytesI s) := by
    refine ⟨_, cap, rfl, by rw [bytesI_len]; exact hge, hle, fun h => (by cases h), fun _ => ⟨w.heap.size, 0, rfl, by omega, hnm, fun j x hj => ⟨[.int .u8 x], rfl, fun q u hu => ?_⟩⟩⟩
    obtain ⟨rfl, rfl⟩ : q = 0 ∧ u = .int .u8 x := by
      cases q with
      | zero => simp at hu; exact ⟨rfl, hu.symm⟩
      | succ q => simp at hu
    unfold bytesI at hj
    rw [List.getElem?_map] at hj
    cases hd : s.data.toList[j]? with
    | none => rw [hd] at hj; cases hj
    | some y =>
      rw [hd] at hj
      simp only [Option.map_some, Option.some.injEq] at hj
      subst hj
      rw [Array.getElem?_toList] at hd
      have hj2 : j < s.data.size := (Array.getElem?_eq_some_iff.1 hd).1
      have : (bytesRow s cap)[j]? = some (.int .u8 (y.toNat : Int)) := by
        unfold bytesRow
        rw [Array.getElem?_append_left (by simpa using hj2)]
        simp [hd]
      simp [World.cell?, hcell, Rp.int, this]
  rw [← bytesI_len] at hr
  refine OpE.run d ho ?_ (hn W _ cap (hH1.addSl (Rp.int .u8) _ _ hsl) hB)
  unfold convOf at hx
  split at hx
  · next s' d' x hop =>
    simp only [Option.some.injEq, Prod.mk.injEq] at hx
    obtain ⟨rfl, rfl, hxv⟩ := hx
    unfold execOp
    simp [hop, hxv, hr]
  · cases hx
/-! ### A row that was made out of a text's bytes: full, and marked; or a row of the call's own -/
def FzAt {α : Type} (d : Rp α) (E : TypeId) (v : Value) (xs : List α) (w : World) (M : Nat → Prop) : Prop :=
  ∃ g cap cur, v = .slice (some ⟨g, 0, none⟩) xs.length cap ∧ w.heap[g]? = some (.cells cur E (cur.size, cur.size + 1)) ∧ Cells d w M xs (cur.toList.take (xs.length * d.sz)) ∧ xs.length ≤ cap ∧ cap ≤ maxLen ∧ cap * d.sz = cur.size
def ownS {α : Type} (d : Rp α) (E : TypeId) (v : Value) (xs : List α) : Chunk :=
  ⟨v.ownBlock.toList, fun w M => (own d E v xs).ok w M ∨ FzAt d E v xs w M,
    fun {w w' M M'} h1 h2 h3 h => h.elim (fun h => .inl ((own d E v xs).keep h1 h2 h3 h)) (fun ⟨g, cap, cur, hv, hg, hc, hm⟩ => .inr ⟨g, cap, cur, hv, by
      rw [h2 g (Array.getElem?_eq_some_iff.1 hg).1 (.inl (by rw [hv]; simp [Value.ownBlock]))]
      exact hg, hc.keep h1 (fun b hb hm => h2 b hb (.inr hm)) h3, hm⟩)⟩
theorem Holds.toS {α : Type} {d : Rp α} {E : TypeId} {v : Value} {xs : List α} (hH : Holds M0 w0 w H) (c : Nat) (hi : H[c]? = some (own d E v xs)) : Holds M0 w0 w (H.set c (ownS d E v xs)) := by
  refine hH.turn c hi hH.below (Nat.le_refl _) (fun _ _ _ => rfl) (fun b hb => .inl hb) ?_ (fun hM => .inl ((own d E v xs).keep (Nat.le_refl _) (fun _ _ _ => rfl) hM (hH.get c hi)))
  show v.ownBlock.toList.Nodup
  cases v.ownBlock <;> simp
theorem Holds.ofS {α : Type} {d : Rp α} {E : TypeId} {v : Value} {xs : List α} (hH : Holds M0 w0 w H) (c : Nat) (hi : H[c]? = some (ownS d E v xs)) (h : (own d E v xs).ok w (Mset M0 H)) : Holds M0 w0 w (H.set c (own d E v xs)) := by
  refine hH.turn c hi hH.below (Nat.le_refl _) (fun _ _ _ => rfl) (fun b hb => .inl hb) ?_ (fun hM => (own d E v xs).keep (Nat.le_refl _) (fun _ _ _ => rfl) hM h)
  show v.ownBlock.toList.Nodup
  cases v.ownBlock <;> simp
theorem storeM (P : Program) (g o : Nat) (t : TypeId) (z : Nat) : ∀ (vs : List Value) (i : Nat) (cur : Array Value) (w : World), w.heap[g]? = some (.cells cur t (z, z + 1)) → cur.size = z → o + i + vs.length ≤ z → (∀ v ∈ vs, v.oneCell' = true) →
    ∃ cur', (storeCells ⟨g, o, none⟩ vs i).run P w = .ok () (w.setRow g cur') ∧ cur'.size = z ∧ cur'.toList.take (o + i + vs.length) = cur.toList.take (o + i) ++ vs
  | [], i, cur, w, hg, hz, _, _ => ⟨cur, by rw [setRow_self w g cur t _ hg]; rfl, hz, by simp⟩
  | v :: vs, i, cur, w, hg, hz, hl, h1 => by
    simp only [List.length_cons] at hl
    have hi : o + i < cur.size := by omega
    have hcell : w.cell? ⟨g, o + i, none⟩ = some cur[o + i] := by simp [World.cell?, hg, hi]
    have hfro : w.frozen? ⟨g, o + i, none⟩ = false := by simp [World.frozen?, hg]; omega
    have hst : (store ((⟨g, o, none⟩ : Addr).add i) v).run P w = .ok () (w.setRow g (cur.setIfInBounds (o + i) v)) := by
      rw [Addr.add_lit, run_store P w _ v _ (h1 v (by simp)), hcell]
      simp [hfro, setCell_eq_setRow w g (o + i) cur t _ v hg]
    obtain ⟨cur', h2, h3, h4⟩ := storeM P g o t z vs (i + 1) (cur.setIfInBounds (o + i) v) (w.setRow g (cur.setIfInBounds (o + i) v)) (setRow_heap w g cur _ t _ hg) (by simpa using hz) (by omega) (fun x hx => h1 x (by simp [hx]))
    refine ⟨cur', by simp only [storeCells, Sem.run_bind, hst, Result.andThen_ok, h2, setRow_setRow], h3, ?_⟩
    rw [List.length_cons, show o + i + (vs.length + 1) = o + (i + 1) + vs.length by omega, h4, Array.toList_setIfInBounds, ← Nat.add_assoc, List.take_add_one, List.take_set_of_le (Nat.le_refl _), List.getElem?_set_self (by simpa using hi)]
    simp
theorem OpE.appendBoxS (dst c c2 : Nat) (T0 E : TypeId) (y : Nat) {α : Type} {d : Rp α} {v : Value} {xs : List α} {b : Nat} {t2 : TypeId} {cs : List Value} (ys : List α) (mm : Nat) (hH : Holds M0 w0 w H) (ho : opOk F n i e dst = true) (hne : c ≠ c2)
    (hx : appendOf F n i e = some (T0, v, .slice (some ⟨b, 0, none⟩) (mm + 1) (mm + 1))) (hT : elemOf' P T0 = some (E, d.sz, y)) (hi : H[c]? = some (ownS d E v xs)) (hi2 : H[c2]? = some (Eng.box b t2 cs)) (hm : ys.length = mm + 1)
    (hc : Cells d w (Mset M0 H) ys cs) (hc' : ∀ w M, Cells d w M ys cs) (hb : mayBe (xs.length + ys.length) y = true)
    (hn : ∀ w' A cp, Holds M0 w0 w' (H.set c (ownS d E (.slice A (xs ++ ys).length cp) (xs ++ ys))) → Kp v.ownBlock.toList w w' → K ((dst, .slice A (xs ++ ys).length cp) :: e) w') : OpE F n i e w K := by
  have hcl : c < H.length := (List.getElem?_eq_some_iff.1 hi).1
  rcases hH.get c hi with h1 | ⟨g, cap0, cur, hv, hg, hcx, hmx, hmx2, hmx3⟩
  · have hH1 := hH.ofS c hi h1
    refine OpE.appendBox dst c c2 T0 E y ys mm hH1 ho hx hT (by rw [List.getElem?_set_self hcl]) (by rw [List.getElem?_set_ne hne]; exact hi2) hm (hc' _ _) hb (fun w' A cp h hk => hn w' A cp ?_ hk)
    rw [List.set_set] at h
    have := h.toS c (by rw [List.getElem?_set_self hcl])
    rwa [List.set_set] at this
  · obtain ⟨hu, inf, z, h1, h2, h3, h4, h5⟩ := elemOf_spec hT
    obtain ⟨hb1, hb2⟩ := mayBe_spec hb
    have hblk : w.heap[b]? = some (.cells cs.toArray t2 (0, 0)) := hH.get c2 hi2
    subst hv
    have hgm := hH.mine g (List.mem_flatMap.2 ⟨_, List.mem_of_getElem? hi, by simp [ownS, Value.ownBlock]⟩)
    have hxl : (cur.toList.take (xs.length * d.sz)).length = xs.length * d.sz := hcx.len
    have hgl : ∀ j u, (cur.toList.take (xs.length * d.sz))[j]? = some u → w.cell? ((⟨g, 0, none⟩ : Addr).add j) = some u := fun j u hj => by
      rw [Addr.add_lit]
      rw [List.getElem?_take] at hj
      split at hj
      · rw [Array.getElem?_toList] at hj
        simp [World.cell?, hg, hj]
      · cases hj
    have hbl : ∀ j u, cs[j]? = some u → w.cell? ((⟨b, 0, none⟩ : Addr).add j) = some u := fun j u hj => by
      rw [Addr.add_lit]
      have := box_cells hblk 0 j u (by simpa using hj)
      simpa using this
    rw [hm] at hb1 hb2
    have hop' : ∀ {v' w'}, (Builtin.append_ #[T0, T0] (opOf F.B n i).type #[.slice (some ⟨g, 0, none⟩) xs.length cap0, .slice (some ⟨b, 0, none⟩) (mm + 1) (mm + 1)]).run P w = .ok v' w' → (execOp e.eval (opOf F.B n i)).run P w = .ok (.value v') w' := fun {v' w'} hr => by
      unfold appendOf at hx
      split at hx <;> first | (cases hx; done) | skip
      rename_i s' x' t t' hop
      cases hbb : Nat.beq t t' with
      | false => simp [hbb] at hx
      | true =>
        have := Nat.eq_of_beq_eq_true hbb
        subst this
        simp only [hbb, cond_true, Option.some.injEq, Prod.mk.injEq] at hx
        obtain ⟨rfl, hs, hx'⟩ := hx
        unfold execOp
        simp [hop, resolve, invoke, builtin, hs, hx', hr]
    have hlx : xs.length + (mm + 1) = (xs ++ ys).length := by rw [List.length_append, hm]
    by_cases hroom : xs.length + (mm + 1) ≤ cap0
    · -- in its place
      have hcsl : cs.length = (mm + 1) * d.sz := by rw [(hc' w (Mset M0 H)).len, hm]
      have hfit : xs.length * d.sz + 0 + cs.length ≤ cur.size := by
        rw [hcsl, ← hmx3, Nat.add_zero, ← Nat.add_mul]
        exact Nat.mul_le_mul_right _ hroom
      obtain ⟨cur', hs1, hs2, hs3⟩ := storeM P g (xs.length * d.sz) E cur.size cs 0 cur w hg rfl hfit (hc' w (Mset M0 H)).one
      have hf := run_firstCells_some (P := P) w d.sz (mm + 1) ⟨b, 0, none⟩ (mm + 1) (mm + 1) cs hcsl hbl
      have hr : (Builtin.append_ #[T0, T0] (opOf F.B n i).type #[.slice (some ⟨g, 0, none⟩) xs.length cap0, .slice (some ⟨b, 0, none⟩) (mm + 1) (mm + 1)]).run P w = .ok (.slice (some ⟨g, 0, none⟩) (xs.length + (mm + 1)) cap0) (w.setRow g cur') := by
        simp [Builtin.append_, run_underlying hu, sizeOf, typeInfo, h1, h3, Builtin.lenOf, hroom, hf, Addr.add_lit, hs1]
      have hrun := hop' hr
      rw [hlx] at hrun
      have hkp : Kp [g] w (w.setRow g cur') := ⟨by simp, fun q _ hq => setRow_other w g q cur' (fun e => hq (by simp [e]))⟩
      refine OpE.run dst ho hrun (hn _ _ cap0 ?_ hkp)
      refine hH.turn c hi (Below.setRow hH.below hgm.1 _) (by simp) (fun q _ hq => setRow_other w g q cur' (fun e => hq (by simp [ownS, Value.ownBlock, e]))) (fun q hq => .inl (by simpa [ownS, Value.ownBlock] using hq)) (by simp [ownS, Value.ownBlock]) (fun hM => .inr ⟨g, cap0, cur', rfl, ?_, ?_, ?_, hmx2, ?_⟩)
      · rw [setRow_heap w g cur cur' E _ hg, hs2]
      · have e2 : (xs ++ ys).length * d.sz = xs.length * d.sz + 0 + cs.length := by rw [← hlx, hcsl, Nat.add_mul]; simp only [Nat.add_zero]
        rw [e2, hs3, Nat.add_zero]
        refine Cells.append (hcx.keep (by simp) (fun q _ hq => setRow_other w g q cur' (fun e => hq (.inr (List.mem_flatMap.2 ⟨_, List.mem_of_getElem? hi, by simp [ownS, Value.ownBlock, e]⟩)))) hM) (hc' _ _)
      · rw [← hlx]; exact hroom
      · rw [hs2]; exact hmx3
    · have hr := run_append_grow (P := P) w T0 (opOf F.B n i).type E inf z hu h1 h2 ⟨g, 0, none⟩ xs.length cap0 (cur.toList.take (xs.length * d.sz)) (by rw [h3]; exact hxl) hgl ⟨b, 0, none⟩ (mm + 1) (mm + 1) cs (by rw [h3, (hc' w (Mset M0 H)).len, hm]) hbl (by omega) (by unfold maxLen at hb1; omega) (growslice_fits (by omega) (by rw [h4]; exact hb2))
      have hge := grownCap_ge w (xs.length + (mm + 1)) cap0 E
      have hcap := grownCap_le_maxLen w (xs.length + (mm + 1)) cap0 E hb1
      generalize grownCap w (xs.length + (mm + 1)) cap0 E = cap at hr hge hcap
      generalize hW : w.drew.alloc (.cells ((cur.toList.take (xs.length * d.sz)).toArray ++ cs.toArray ++ Builtin.zeroCells z.cells (cap - (xs.length + (mm + 1)))) E) = W at hr
      have hrun := hop' hr
      have hlen2 : (cur.toList.take (xs.length * d.sz) ++ cs).length = (xs.length + (mm + 1)) * d.sz := by rw [List.length_append, hxl, (hc' w (Mset M0 H)).len, hm, ← Nat.add_mul]
      have hown : W.ownsRow 0 E d.sz (.slice (some ⟨w.heap.size, 0, none⟩) (xs.length + (mm + 1)) cap) (xs.length + (mm + 1)) (cur.toList.take (xs.length * d.sz) ++ cs) := by
        rw [← hW]
        refine ⟨hlen2, .inr ⟨w.heap.size, cap, _, rfl, Nat.zero_le _, heap_alloc_new w.drew _, hge, hcap, ?_, ?_⟩⟩
        · simp only [Array.size_append, List.size_toArray, Builtin.zeroCells, Array.size_map, Array.size_range, h5, hxl, (hc' w (Mset M0 H)).len, hm, ← Nat.add_mul]
          congr 1
          omega
        · simp only [Array.toList_append, List.append_assoc]
          rw [← List.append_assoc, ← hlen2]
          exact List.take_left
      have hgr : w.grownBy W none := by rw [← hW]; exact ⟨rfl, rfl, rfl, by simp, fun q hq _ => heap_alloc_old w.drew _ hq⟩
      have hsz : W.heap.size = w.heap.size + 1 := by rw [← hW]; simp
      have hH0 : Holds M0 w0 w (H.set c (own d E (.slice none 0 0) ([] : List α))) :=
        hH.turn c hi hH.below (Nat.le_refl _) (fun _ _ _ => rfl) (fun b hb => by simp [own, Value.ownBlock] at hb) (by simp [own, Value.ownBlock]) (fun _ => ⟨[], World.ownsRow_nil w 0 E d.sz, rfl⟩)
      have hMs : ∀ q, q < w.heap.size → Mset M0 (H.set c (own d E (.slice none 0 0) ([] : List α))) q → Mset M0 H q := by
        rintro q hq (hm | hm)
        · exact .inl hm
        · right
          obtain ⟨x, hx, hbx⟩ := List.mem_flatMap.1 hm
          obtain ⟨j, hj⟩ := List.mem_iff_getElem?.1 hx
          by_cases hjc : c = j
          · subst hjc
            rw [List.getElem?_set_self hcl] at hj
            cases hj
            simp [own, Value.ownBlock] at hbx
          · rw [List.getElem?_set_ne hjc] at hj
            exact List.mem_flatMap.2 ⟨x, List.mem_of_getElem? hj, hbx⟩
      have hcell : Cells d w (Mset M0 (H.set c (own d E (.slice none 0 0) ([] : List α)))) (xs ++ ys) (cur.toList.take (xs.length * d.sz) ++ cs) := Cells.append (hcx.keep (Nat.le_refl _) (fun _ _ _ => rfl) hMs) (hc' _ _)
      rw [hlx] at hown hrun
      have hfin := hH0.appended c (by rw [List.getElem?_set_self hcl]) (xs := ([] : List α)) (ys := xs ++ ys) (cells := []) (news := cur.toList.take (xs.length * d.sz) ++ cs) rfl hcell (by rw [List.length_nil, Nat.zero_add, List.nil_append]; exact hown) hgr (fun b hb => by
        simp only [Value.ownBlock, Option.some.injEq] at hb
        subst hb
        exact .inr ⟨Nat.le_refl _, by omega⟩)
      rw [List.set_set, List.nil_append] at hfin
      have hfin2 := hfin.toS c (by rw [List.getElem?_set_self hcl])
      rw [List.set_set] at hfin2
      exact OpE.run dst ho hrun (hn W _ cap hfin2 ⟨hgr.size, fun q hq _ => hgr.block q hq (by simp)⟩)
theorem ownS_rd {α : Type} {d : Rp α} {E : TypeId} {v : Value} {xs : List α} {M : Nat → Prop} (h : (ownS d E v xs).ok w M) : Rd d w M v xs := by
  rcases h with h | ⟨g, cap, cur, rfl, hg, hc, hm⟩
  · exact own_rd h
  · refine ⟨some ⟨g, 0, none⟩, cap, rfl, fun h0 => ⟨⟨g, 0, none⟩, _, rfl, hc, fun j u hj => ?_⟩⟩
    rw [Addr.add_lit]
    rw [List.getElem?_take] at hj
    split at hj
    · rw [Array.getElem?_toList] at hj
      simp [World.cell?, hg, hj]
    · cases hj
/-- It is read from now on. -/
theorem Holds.releaseS {α : Type} (h : Holds M0 w0 w H) (c : Nat) {d : Rp α} {t : TypeId} {v : Value} {xs : List α} (hi : H[c]? = some (ownS d t v xs)) : Holds M0 w0 w (H.set c (sl d v xs)) := by
  refine h.turn c hi h.below (Nat.le_refl _) (fun _ _ _ => rfl) (fun b hb => by simp [sl] at hb) (by simp [sl]) (fun hM => ?_)
  have hno : ∀ b, v.ownBlock = some b → ¬ Mset M0 (H.set c (sl d v xs)) b := fun b hb hm => by
    have hbm : b ∈ (ownS d t v xs).mine := by simp [ownS, hb]
    rcases hm with hm | hm
    · have h1 := h.mine b (List.mem_flatMap.2 ⟨_, List.mem_of_getElem? hi, hbm⟩)
      have := h.old b hm
      omega
    · obtain ⟨x, hx, hbx⟩ := List.mem_flatMap.1 hm
      obtain ⟨j, hj⟩ := List.mem_iff_getElem?.1 hx
      by_cases hjc : c = j
      · subst hjc
        rw [List.getElem?_set_self (List.getElem?_eq_some_iff.1 hi).1] at hj
        cases hj
        simp [sl] at hbx
      · rw [List.getElem?_set_ne hjc] at hj
        exact hjc (nodup_at h.nodup hi hj hbm hbx)
  rcases h.get c hi with h1 | ⟨g, cap, cur, rfl, hg, hc, hm, hm2, hm3⟩
  · exact own_sl h1 hM hno
  · refine ⟨_, cap, rfl, hm, hm2, fun h => (by cases h), fun _ => ⟨g, 0, rfl, (Array.getElem?_eq_some_iff.1 hg).1, hno g rfl, fun j x hj => ?_⟩⟩
    obtain ⟨cs, hk, hcs⟩ := hc.get j x hj
    refine ⟨cs, d.keep (Nat.le_refl _) (fun _ _ _ => rfl) hM hk, fun q u hu => ?_⟩
    have := hcs q u hu
    rw [List.getElem?_take] at this
    split at this
    · rw [Array.getElem?_toList] at this
      simp [World.cell?, hg, this]
    · cases this
/-- '[]byte(s)': a row of the call's own, marked. -/
theorem OpE.bytesOwn (d : Nat) (S D E : TypeId) (s : ByteArray) (hH : Holds M0 w0 w H) (ho : opOk F n i e d = true) (hx : convOf F n i e = some (S, D, .string s)) (ht : bytesTy2 P S D = some E) (hs : Nat.ble s.size 140737488355328 = true)
    (hn : ∀ c w' b, Holds M0 w0 w' (H ++ [ownS (Rp.int .u8) E (.slice (some ⟨b, 0, none⟩) (bytesI s).length c) (bytesI s)]) → Below w.heap.size w w' → w.heap.size ≤ b → K ((d, .slice (some ⟨b, 0, none⟩) (bytesI s).length c) :: e) w') : OpE F n i e w K := by
  obtain ⟨hS, hD, hE⟩ : P.underlying S = some .string ∧ P.underlying D = some (.slice E) ∧ P.underlying E = some (.int .u8) := by
    unfold bytesTy2 at ht
    split at ht
    · next E' h1 h2 =>
      split at ht
      · next h3 =>
        cases ht
        exact ⟨h1, h2, h3⟩
      · cases ht
    · cases ht
  have hr := run_bytes_of_string (P := P) w S D E s hS hD hE
  have hge := grownCap_ge w s.size 0 E
  have hle := grownCap_le_maxLen w s.size 0 E (by have := Nat.le_of_ble_eq_true hs; unfold maxLen; omega)
  generalize grownCap w s.size 0 E = cap at hr hge hle
  have hrs : (bytesRow s cap).size = cap := by
    have : s.data.size ≤ cap := hge
    unfold bytesRow
    simp
    omega
  generalize hW : w.drew.alloc (.cells (bytesRow s cap) E ((bytesRow s cap).size, (bytesRow s cap).size + 1)) = W at hr
  have hB : Below w.heap.size w W := by rw [← hW]; exact (Below.refl w.heap.size w).drew.alloc (Nat.le_refl _) _
  have hcell : W.heap[w.heap.size]? = some (.cells (bytesRow s cap) E ((bytesRow s cap).size, (bytesRow s cap).size + 1)) := by rw [← hW]; exact heap_alloc_new w.drew _
  have hsz : W.heap.size = w.heap.size + 1 := by rw [← hW]; simp
  have hH0 : Holds M0 w0 w (H ++ [sl (Rp.int .u8) (.slice none 0 0) ([] : List Int)]) := hH.addSl _ _ _ (Sl.nil _ _ _)
  have hcs : ∀ M, Cells (Rp.int .u8) W M (bytesI s) ((bytesRow s cap).toList.take ((bytesI s).length * (Rp.int .u8).sz)) := fun M => by
    have e1 : (bytesRow s cap).toList.take ((bytesI s).length * (Rp.int .u8).sz) = (bytesI s).map fun x => Value.int .u8 x := by
      have e2 : (bytesI s).length * (Rp.int .u8).sz = s.data.toList.length := by show (bytesI s).length * 1 = _; rw [Nat.mul_one]; unfold bytesI; simp
      rw [e2]
      unfold bytesRow bytesI
      rw [Array.toList_append, List.take_append_of_le_length (by simp), List.map_map, List.take_of_length_le (by simp), Array.toList_map]
      rfl
    rw [e1]
    exact cells_int _ _ _ _
  have hfin := hH0.turn H.length (c := sl (Rp.int .u8) (.slice none 0 0) ([] : List Int)) (by rw [List.getElem?_append_right (Nat.le_refl _), Nat.sub_self]; rfl) (hH0.below.trans (hB.mono hH.below.size)) hB.size (fun b hb _ => hB.block b hb) (c' := ownS (Rp.int .u8) E (.slice (some ⟨w.heap.size, 0, none⟩) (bytesI s).length cap) (bytesI s))
    (fun b hb => by
      simp only [ownS, Value.ownBlock, Option.toList_some, List.mem_singleton] at hb
      subst hb
      exact .inr ⟨Nat.le_refl _, by omega⟩) (by simp [ownS, Value.ownBlock])
    (fun _ => .inr ⟨w.heap.size, cap, _, rfl, hcell, hcs _, by rw [bytesI_len]; exact hge, hle, by rw [hrs]; exact Nat.mul_one _⟩)
  rw [List.set_append_right _ _ (Nat.le_refl _), Nat.sub_self, List.set_cons_zero] at hfin
  rw [← bytesI_len] at hr
  refine OpE.run d ho ?_ (hn cap W _ hfin hB (Nat.le_refl _))
  unfold convOf at hx
  split at hx
  · next s' d' x hop =>
    simp only [Option.some.injEq, Prod.mk.injEq] at hx
    obtain ⟨rfl, rfl, hxv⟩ := hx
    unfold execOp
    simp [hop, hxv, hr]
  · cases hx
/-- '[]byte(s)' of a slice of a text's bytes that was just made: it is marked. -/
theorem OpE.markFull (d c : Nat) (S : TypeId) {α : Type} {dd : Rp α} {b : Nat} {E : TypeId} {cs : List Value} (xs : List α) (hH : Holds M0 w0 w H) (ho : opOk F n i e d = true) (hx : convOf F n i e = some (S, S, .slice (some ⟨b, 0, none⟩) xs.length xs.length)) (hS : P.underlying S = some (.slice E)) (hE : P.underlying E = some (.int .u8))
    (hi : H[c]? = some (Eng.box b E cs)) (hc : ∀ w M, Cells dd w M xs cs) (hl : Nat.ble xs.length 1000 = true)
    (hn : ∀ w', Holds M0 w0 w' (H.set c (ownS dd E (.slice (some ⟨b, 0, none⟩) xs.length xs.length) xs)) → Kp [b] w w' → K ((d, .slice (some ⟨b, 0, none⟩) xs.length xs.length) :: e) w') : OpE F n i e w K := by
  have hb : w.heap[b]? = some (.cells cs.toArray E (0, 0)) := hH.get c hi
  have hlt := (Array.getElem?_eq_some_iff.1 hb).1
  have hb2 := (Array.getElem?_eq_some_iff.1 hb).2
  obtain ⟨h1, h2⟩ := hH.put hi b rfl (ownS dd E (.slice (some ⟨b, 0, none⟩) xs.length xs.length) xs) rfl (.cells cs.toArray E (cs.toArray.size, cs.toArray.size + 1)) (fun M h => .inr ⟨b, xs.length, cs.toArray, rfl, h, by rw [List.take_of_length_le (by simpa using Nat.le_of_eq (hc w M).len)]; simpa using hc _ _, Nat.le_refl _, by have := Nat.le_of_ble_eq_true hl; unfold maxLen; omega, by simpa using (hc w M).len.symm⟩)
  have hfz : w.freeze ⟨b, cs.toArray.size, none⟩ 1 = w.putObj b (.cells cs.toArray E (cs.toArray.size, cs.toArray.size + 1)) := by
    unfold World.freeze World.putObj
    rw [if_neg (by decide)]
    congr 1
    apply Array.ext_getElem?
    intro j
    rw [Array.getElem?_modify, Array.getElem?_setIfInBounds]
    by_cases hj : b = j
    · subst hj
      simp [hlt, hb2]
    · simp [hj]
  refine OpE.run d ho ?_ (hn _ h1 h2)
  unfold convOf at hx
  split at hx
  · next s' d' x hop =>
    simp only [Option.some.injEq, Prod.mk.injEq] at hx
    obtain ⟨rfl, rfl, hxv⟩ := hx
    have hsh : w.shape? b = some (E, cs.toArray.size) := by simp [World.shape?, hb]
    have hrun : (convert d' d' (.slice (some ⟨b, 0, none⟩) xs.length xs.length)).run P w = .ok (.slice (some ⟨b, 0, none⟩) xs.length xs.length) (w.freeze ⟨b, cs.toArray.size, none⟩ 1) := by
      simp [convert, run_underlying hS, run_underlying hE, markStringish, hsh]
    rw [hfz] at hrun
    unfold execOp
    simp [hop, hxv, hrun]
  · cases hx
end
theorem Holds.rdOwnS {α : Type} {M0 : Nat → Prop} {w0 w : World} {H : List Chunk} (h : Holds M0 w0 w H) (c : Nat) {d : Rp α} {t : TypeId} {v : Value} {xs : List α} (hi : H[c]? = some (ownS d t v xs)) : Rd d w (Mset M0 H) v xs := ownS_rd (h.get c hi)
theorem Holds.rdOwnSI {α : Type} {M0 : Nat → Prop} {w0 ws w' : World} {H : List Chunk} {T : List Nat} (h : Holds M0 w0 ws H) (is : List Nat) (hT : mines (Eng.pick H is) = T) (hk : Kp T ws w') (c : Nat) {d : Rp α} {t : TypeId} {v : Value} {xs : List α} (hi : H[c]? = some (ownS d t v xs)) (hc : is.elem c = false) : Rd d w' (Mset M0 H) v xs := ownS_rd (h.atI is hT hk c hi hc)
end Go.Eng
