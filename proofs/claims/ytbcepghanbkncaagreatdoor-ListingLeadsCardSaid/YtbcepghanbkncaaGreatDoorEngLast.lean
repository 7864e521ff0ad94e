/- The engine's ranges over maps of one entry at most, rows of zeros put behind nothing, runes in builders, the library's tables. -/
import Derived.Test.YtbcepghanbkncaaGreatDoorEngMid
import Derived.Test.YtbcepghanbkncaaGreatDoorEngTab
import Derived.Test.YtbcepghanbkncaaGreatDoorEngBld
import Derived.Lib.AppendZeros
import Derived.Shelf.Unicode.DecodeSlow
import Derived.Shelf.Strings.MapAny
set_option linter.unusedVariables false
set_option linter.unusedSimpArgs false
set_option linter.unusedSectionVars false
namespace Go.Eng
open Go.RowKit
section
variable {P : Program} {F : Fun P} {k : List It} {e e' : Env} {w w' w0 : World} {R : Ending → World → Prop} {n i c : Nat} {M0 : Nat → Prop} {H : List Chunk} {K : Env → World → Prop}
section
variable {κ ν : Type} [Inhabited κ] [Inhabited ν] [BEq κ] [LawfulBEq κ] {ek : κ → Value} {ev : ν → Value}
end
def appOf (F : Fun P) (n i : Nat) (e : Env) : Option (TypeId × TypeId × Value × Value) :=
  match (opOf F.B n i).op with
  | .call { callee := .builtin .append, args := ⟨[s, x]⟩, argTypes := ⟨[t, t']⟩ } => some (t, t', e.eval s, e.eval x)
  | _ => none
theorem run_cutNil {T : TypeId} (hx : cutOf F n i e = some (T, .slice none 0 0, none, some 0)) (hT : (elemSz P T).isSome = true) : (execOp e.eval (opOf F.B n i)).run P w = .ok (.value (.slice none 0 0)) w := by
  obtain ⟨s, hT⟩ := Option.isSome_iff_exists.1 hT
  have := run_cut (P := P) (F := F) (n := n) (i := i) (e := e) (w := w) (lo := none) (hi := some 0) hx hT
  simpa using this
def zerR (x : Int) : Bool := decide (0 < x) && decide (x ≤ 1000000000000)
theorem OpE.appZeros (d : Nat) (T IT E : TypeId) {kq kn : IntKind} {x : Int} (hH : Holds M0 w0 w H) (ho : opOk F n i e d = true) (hx : appOf F n i e = some (T, IT, .slice none 0 0, .int kq x)) (hT : P.underlying T = some (.slice E)) (hI : P.underlying IT = some (.int kn))
    (hE : (P.info? E).map (fun i => (i.zero, i.size, i.bytes)) = some (some (.int .u8 0), 1, 1)) (h : zerR x = true)
    (hn : ∀ w' A c, Holds M0 w0 w' (H ++ [own (Rp.int .u8) E (.slice A (List.replicate x.toNat (0 : Int)).length c) (List.replicate x.toNat 0)]) → Below w.heap.size w w' → K ((d, .slice A (List.replicate x.toNat (0 : Int)).length c) :: e) w') : OpE F n i e w K := by
  simp only [zerR, Bool.and_eq_true, decide_eq_true_eq] at h
  obtain ⟨m, rfl⟩ : ∃ m : Nat, x = (m : Int) := ⟨x.toNat, by omega⟩
  obtain ⟨inf, hi, hpt⟩ := Option.map_eq_some_iff.1 hE
  simp only [Prod.mk.injEq] at hpt
  obtain ⟨hz, hs, hb⟩ := hpt
  have hr : ∀ ty, _ := fun ty => Lib.run_append_nil_zeros (P := P) w T IT ty E inf (.int .u8 0) kq kn hT hI hi hz m (by omega) (by omega) (by omega) (by rw [hb]; omega)
  have hge : m ≤ grownCap w m 0 E := grownCap_ge w _ _ _
  have hle : grownCap w m 0 E ≤ maxLen := grownCap_le_maxLen w m 0 E (by unfold maxLen; omega)
  generalize hG : grownCap w m 0 E = G at hr hge hle
  have hcell : Builtin.zeroCells (Value.int .u8 0).cells m ++ Builtin.zeroCells (Value.int .u8 0).cells (G - m) = Array.replicate G (Value.int .u8 0) := by
    have hz1 : ∀ j, Builtin.zeroCells (Value.int .u8 0).cells j = Array.replicate j (Value.int .u8 0) := by
      intro j
      apply Array.ext'
      simp only [Builtin.zeroCells, Value.cells]
      refine List.ext_getElem? fun q => ?_
      by_cases hq : q < j
      · simp [hq, Nat.mod_one]
      · simp [hq, Nat.mod_one]
    rw [hz1, hz1]
    apply Array.ext'
    simp only [Array.toList_append, Array.toList_replicate, List.replicate_append_replicate]
    congr 1; omega
  rw [hcell] at hr
  have hlen : (List.replicate ((m : Int)).toNat (0 : Int)).length = m := by simp
  have hnew := alloc_new w.drew (.cells (Array.replicate G (Value.int .u8 0)) E)
  have hsz : w.drew.heap.size = w.heap.size := rfl
  have hbl : Below w.heap.size w (w.drew.alloc (.cells (Array.replicate G (Value.int .u8 0)) E)) := ((Below.refl _ w).drew).alloc (Nat.le_refl _) _
  have hH' := hH.drew.newOwn (d := Rp.int .u8) (E := E) (v := .slice (some ⟨w.heap.size, 0, none⟩) m G) (xs := List.replicate ((m : Int)).toNat (0 : Int)) (cells := List.replicate m (Value.int .u8 0)) (b := w.heap.size)
    (w' := w.drew.alloc (.cells (Array.replicate G (Value.int .u8 0)) E)) rfl (Nat.le_refl _) (by simp) (by
      rw [hlen]
      refine ⟨by simp [Rp.int], .inr ⟨w.heap.size, G, _, rfl, Nat.zero_le _, hnew, hge, hle, by simp [Rp.int], ?_⟩⟩
      rw [Array.toList_replicate, List.take_replicate]
      congr 1
      simp [Rp.int]
      omega) (World.grownBy_alloc w.drew _ none) (fun w M => by
      have key : ∀ m : Nat, Cells (Rp.int .u8) w M (List.replicate m (0 : Int)) (List.replicate m (Value.int .u8 0)) := by
        intro m
        induction m with
        | zero => rfl
        | succ m ih => exact ⟨[.int .u8 0], List.replicate m (Value.int .u8 0), rfl, rfl, ih⟩
      simpa using key m)
  have h9 := hn _ (some ⟨w.heap.size, 0, none⟩) G (by rw [hlen]; exact hH') hbl
  rw [hlen] at h9
  refine OpE.run d ho ?_ h9
  unfold appOf at hx
  split at hx <;> first | (cases hx; done) | skip
  rename_i s' x' t t' hop
  simp only [Option.some.injEq, Prod.mk.injEq] at hx
  obtain ⟨rfl, rfl, h1, h2⟩ := hx
  unfold execOp
  simp [hop, resolve, invoke, builtin, h1, h2, hr]
def u8B (r : Int) : List UInt8 := if r < 128 then [UInt8.ofNat r.toNat] else [UInt8.ofNat (192 + r / 64).toNat, UInt8.ofNat (128 + r % 64).toNat]
def bldQ (n : Nat) (r : Int) : Bool := Nat.ble (n + 4) 140737488355328 && decide (0 ≤ r) && decide (r < 256)
theorem u8B_len (r : Int) : 1 ≤ (u8B r).length ∧ (u8B r).length ≤ 2 := by unfold u8B; split <;> simp
theorem u8B_cells {r : Int} (h0 : 0 ≤ r) (h1 : r < 256) : Lib.runeCells r = Lib.byteCells (u8B r) := by
  unfold u8B
  by_cases h : r < 128
  · rw [if_pos h]
    simp only [Lib.runeCells, Lib.encodeRuneZ_one h0 (by omega), Lib.byteCells, List.map_cons, List.map_nil]
    congr 2
    rw [UInt8.toNat_ofNat']
    omega
  · rw [if_neg h]
    simp only [Lib.runeCells, Lib.encodeRuneZ_two (show 128 ≤ r by omega) (by omega), Lib.byteCells, List.map_cons, List.map_nil]
    congr 2
    · rw [UInt8.toNat_ofNat']
      omega
    · congr 1
      rw [UInt8.toNat_ofNat']
      omega
variable {T E b : Nat}
def Others (M0 : Nat → Prop) (w0 : World) (H : List Chunk) (c : Nat) : Prop := ∀ (j : Nat) (d : Chunk), c ≠ j → H[j]? = some d → d.mine = [] ∧ d.ok w0 M0
theorem mines_one {M0 : Nat → Prop} {w0 : World} : ∀ {H : List Chunk} {c : Nat} {x : Chunk}, Others M0 w0 H c → H[c]? = some x → mines H = x.mine
  | [], c, x, _, hi => by simp at hi
  | d :: H, 0, x, hO, hi => by
    obtain rfl := Option.some.inj hi
    have : mines H = [] := by
      refine List.flatMap_eq_nil_iff.2 fun y hy => ?_
      obtain ⟨j, hj⟩ := List.mem_iff_getElem?.1 hy
      exact (hO (j + 1) y (by omega) hj).1
    show d.mine ++ mines H = _
    rw [this, List.append_nil]
  | d :: H, c + 1, x, hO, hi => by
    have h0 := (hO 0 d (by omega) rfl).1
    show d.mine ++ mines H = _
    rw [h0, List.nil_append]
    exact mines_one (c := c) (fun j y hj hy => hO (j + 1) y (by omega) hy) hi
theorem Holds.blRow {v1 v' : Value} {A : Option Addr} {cp : Nat} {l m : List UInt8} (hO : Others M0 w0 H c) (hH : Holds M0 w0 w H) (hi : H[c]? = some (bl T E b v1 A cp l)) (hTE : T ≠ E) (hm : l ++ m ≠ [])
    (h1 : w'.ownsRow w0.heap.size E 1 v' (l ++ m).length (Lib.byteCells (l ++ m))) (h2 : ∃ o, (w.alloc o).grownBy w' (Value.slice A l.length cp).ownBlock) :
    ∃ A' cp', v' = .slice A' (l ++ m).length cp' ∧ Holds M0 w0 w' (H.set c (bl T E b v1 A' cp' (l ++ m))) := by
  obtain ⟨o, h2⟩ := h2
  obtain ⟨⟨p, hp, hb⟩, ho, hne⟩ := hH.get c hi
  have hlm : (l ++ m).length ≠ 0 := fun h => hm (List.eq_nil_of_length_eq_zero h)
  rcases h1.2 with ⟨hv, hz⟩ | ⟨g, cap, cur, hv, hg0, hg, h4, h5, h6, h7⟩
  · exact absurd hz hlm
  refine ⟨some ⟨g, 0, none⟩, cap, hv, ?_⟩
  have hcl : c < H.length := (List.getElem?_eq_some_iff.1 hi).1
  have hbm : b ∈ (bl T E b v1 A cp l).mine := List.mem_cons_self
  have hmr := hH.mine b (List.mem_flatMap.2 ⟨_, List.mem_of_getElem? hi, hbm⟩)
  have hsa : (w.alloc o).heap.size = w.heap.size + 1 := by simp
  have hrow : ∀ g, (Value.slice A l.length cp).ownBlock = some g → w0.heap.size ≤ g ∧ g < w.heap.size := fun g hg => hH.mine g (List.mem_flatMap.2 ⟨_, List.mem_of_getElem? hi, List.mem_cons_of_mem _ (by simp [hg])⟩)
  have hblk : ∀ x, x < w.heap.size → (Value.slice A l.length cp).ownBlock ≠ some x → w'.heap[x]? = w.heap[x]? := fun x hx hn => by
    rw [h2.block x (by omega) (fun h => hn h.symm)]
    exact Below.heap_alloc _ _ _ hx
  have hb' : w'.heap[b]? = some (.cells #[p, v1] T (0, 0)) := (hblk b hmr.2 hne).trans hb
  have hgb : g ≠ b := fun h => by
    subst h
    rw [hg] at hb'
    simp only [Option.some.injEq, Obj.cells.injEq] at hb'
    exact hTE hb'.2.1.symm
  have hne' : (Value.slice (some ⟨g, 0, none⟩) (l ++ m).length cap).ownBlock ≠ some b := fun h => hgb (by simpa [Value.ownBlock] using h)
  have hO' : Others M0 w0 (H.set c (bl T E b v1 (some ⟨g, 0, none⟩) cap (l ++ m))) c := fun j d hj hd => by
    rw [List.getElem?_set_ne hj] at hd
    exact hO j d hj hd
  have hset : (H.set c (bl T E b v1 (some ⟨g, 0, none⟩) cap (l ++ m)))[c]? = some (bl T E b v1 (some ⟨g, 0, none⟩) cap (l ++ m)) := by rw [List.getElem?_set_self hcl]
  have hmines : mines (H.set c (bl T E b v1 (some ⟨g, 0, none⟩) cap (l ++ m))) = [b, g] := by
    rw [mines_one hO' hset]
    simp [bl, Value.ownBlock]
  have hbel : Below w0.heap.size w0 w' := (hH.below.alloc hH.below.size o).grown h2 (by rw [hsa]; have := hH.below.size; omega) (fun g hg => (hrow g hg).1)
  refine ⟨hbel, hH.old, fun d hd => ?_, fun x hx => ?_, ?_⟩
  · obtain ⟨j, hj⟩ := List.mem_iff_getElem?.1 hd
    by_cases hjc : c = j
    · subst hjc
      rw [hset] at hj
      obtain rfl := Option.some.inj hj
      exact ⟨⟨p, hp, hb'⟩, ⟨h1.1, .inr ⟨g, cap, cur, rfl, Nat.zero_le _, hg, h4, h5, h6, h7⟩⟩, hne'⟩
    · obtain ⟨h0, hs⟩ := hO' j d hjc hj
      refine d.keep hbel.size (fun x hx _ => hbel.block x hx) (fun x hx hxm => ?_) hs
      rcases hxm with hxm | hxm
      · exact hxm
      · rw [hmines] at hxm
        simp only [List.mem_cons, List.not_mem_nil, or_false] at hxm
        omega
  · rw [hmines] at hx
    simp only [List.mem_cons, List.not_mem_nil, or_false] at hx
    have := h2.size
    rcases hx with rfl | rfl
    · exact ⟨hmr.1, by omega⟩
    · exact ⟨hg0, (Array.getElem?_eq_some_iff.1 hg).1⟩
  · rw [hmines]
    simp only [List.nodup_cons, List.mem_singleton, List.not_mem_nil, not_false_eq_true, List.nodup_nil, and_true]
    exact fun h => hgb h.symm
end
theorem pairs_get (f g : Nat → Value) (i : Fin 16) : ((List.range 16).flatMap fun i => [f i, g i])[2 * i.val]? = some (f i) ∧ ((List.range 16).flatMap fun i => [f i, g i])[2 * i.val + 1]? = some (g i) := by
  obtain ⟨i, hi⟩ := i
  have : i = 0 ∨ i = 1 ∨ i = 2 ∨ i = 3 ∨ i = 4 ∨ i = 5 ∨ i = 6 ∨ i = 7 ∨ i = 8 ∨ i = 9 ∨ i = 10 ∨ i = 11 ∨ i = 12 ∨ i = 13 ∨ i = 14 ∨ i = 15 := by omega
  rcases this with rfl | rfl | rfl | rfl | rfl | rfl | rfl | rfl | rfl | rfl | rfl | rfl | rfl | rfl | rfl | rfl <;> exact ⟨rfl, rfl⟩
theorem utf8_of {g3 g4 : Nat} {w : World} {M M' : Nat → Prop} {t3 : List Int} {t4 : List (Int × Int)} (h3 : (gl g3 (t3.flatMap fun x => [.int .u8 x])).ok w M) (h4 : (gl g4 (t4.flatMap fun x => [.int .u8 x.1, .int .u8 x.2])).ok w M')
    (e3 : (t3.flatMap fun x => [Value.int .u8 x]) = (List.range 256).map fun c => .int .u8 (Lib.firstT c)) (e4 : (t4.flatMap fun x => [Value.int .u8 x.1, Value.int .u8 x.2]) = (List.range 16).flatMap fun i => [.int .u8 (Lib.accLo i), .int .u8 (Lib.accHi i)]) : Lib.Utf8Tabs g3 g4 w := by
  rw [e3] at h3; rw [e4] at h4
  refine ⟨fun c hc => ?_, fun i hi => ⟨?_, ?_⟩⟩
  · have := h3.2.2.1 c _ (by rw [List.getElem?_map, List.getElem?_range hc]; rfl)
    simpa using this
  · have := h4.2.2.1 (2 * i) _ (pairs_get _ _ ⟨i, hi⟩).1
    simpa using this
  · have := h4.2.2.1 (2 * i + 1) _ (pairs_get _ _ ⟨i, hi⟩).2
    simpa [Nat.add_assoc] using this
end Go.Eng
