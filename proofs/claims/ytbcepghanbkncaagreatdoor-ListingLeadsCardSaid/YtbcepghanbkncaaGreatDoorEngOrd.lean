/- The engine's maps further: deletions, lengths, maps that are read alone, and ranges over maps in whatever order. -/
import Derived.Test.YtbcepghanbkncaaGreatDoorEngMap
import Derived.Maps.RangeRun
set_option linter.unusedVariables false
set_option linter.unusedSimpArgs false
set_option linter.unusedSectionVars false
namespace Go.Eng
open Go.RowKit
theorem look_sym {κ ν : Type} [BEq κ] {z0 : ν} (ev : ν → Value) (kvs : List (κ × ν)) (x : κ) (ok : Bool) :
    cond ok (Value.tuple #[((findK kvs x).map ev).getD (ev z0), .bool (findK kvs x).isSome]) (((findK kvs x).map ev).getD (ev z0)) = cond ok (Value.tuple #[ev ((findK kvs x).getD z0), .bool (findK kvs x).isSome]) (ev ((findK kvs x).getD z0)) := by
  cases findK kvs x <;> rfl
theorem perm_pull {α β : Type} (f : α → β) : ∀ {l : List α} {m m' : List β}, m = l.map f → m.Perm m' → ∃ l', l.Perm l' ∧ m' = l'.map f := by
  intro l m m' hm hp
  induction hp generalizing l with
  | nil => cases l with | nil => exact ⟨[], .refl _, rfl⟩ | cons a l => cases hm
  | cons x h ih =>
    cases l with
    | nil => cases hm
    | cons a l =>
      simp only [List.map_cons, List.cons.injEq] at hm
      obtain ⟨l', h1, h2⟩ := ih hm.2
      exact ⟨a :: l', h1.cons a, by rw [List.map_cons, ← h2, hm.1]⟩
  | swap x y t =>
    match l, hm with
    | a :: c :: l, hm =>
      simp only [List.map_cons, List.cons.injEq] at hm
      exact ⟨c :: a :: l, .swap _ _ _, by simp [hm.1, hm.2.1, hm.2.2]⟩
  | trans h1 h2 ih1 ih2 =>
    obtain ⟨l1, p1, e1⟩ := ih1 hm
    obtain ⟨l2, p2, e2⟩ := ih2 e1
    exact ⟨l2, p1.trans p2, e2⟩
section
variable {P : Program} {F : Fun P} {k : List It} {e e' : Env} {w w' w0 : World} {R : Ending → World → Prop} {n i c : Nat} {M0 : Nat → Prop} {H : List Chunk} {K : Env → World → Prop} {κ ν : Type} [BEq κ] [LawfulBEq κ] {ek : κ → Value} {ev : ν → Value}
theorem map_erase {α β : Type} (f : α → β) : ∀ (l : List α) (j : Nat), (l.eraseIdx j).map f = (l.map f).eraseIdx j
  | [], _ => by simp
  | a :: l, 0 => by simp
  | a :: l, j + 1 => by simp [map_erase f l j]
theorem run_delete {T kT eT ty : TypeId} {b : Nat} {kvs : List (κ × ν)} {x : κ} (ats : List TypeId) (hT : mapTy P T = some (kT, eT)) (hK : KeyOk P kT ek) (hm : MapAt ek ev b kvs w) :
    ∃ es clock, (Builtin.delete_ (T :: ats).toArray ty #[.map (some b), ek x]).run P w = .ok (.tuple #[]) (w.putObj b (.map es clock)) ∧ ((w.putObj b (.map es clock)).heap[b]? = some (.map es clock) → MapAt ek ev b (delK kvs x) (w.putObj b (.map es clock))) := by
  obtain ⟨hn, es, clock, l, hp, hl, hb, hbn⟩ := hm
  have hu := mapTy_spec hT
  have hnl : (l.map Prod.fst).Nodup := ((hp.map Prod.fst).nodup_iff).2 hn
  have hfind := hK.find w x es.toList (l.map Prod.fst) (keys_al hl)
  rcases findE_al x es.toList l 0 hl with ⟨h1, h2⟩ | ⟨j, u, h1, h2, h3⟩
  · rw [h1] at hfind
    refine ⟨es, clock, ?_, fun hh => ⟨delK_nodup hn x, es, clock, delK l x, hp.filter _, ?_, hh, hbn⟩⟩
    · unfold Builtin.delete_
      simp [run_underlying hu, run_getMap hb, hK.check, hfind, run_setMap _ hb]
    · have : delK l x = l := List.filter_eq_self.2 fun p hp' => by rw [findK_none.1 h2 p hp']; rfl
      rw [this]; exact hl
  · rw [h1] at hfind
    refine ⟨es.eraseIdxIfInBounds j, clock, ?_, fun hh => ⟨delK_nodup hn x, _, clock, delK l x, hp.filter _, ?_, hh, hbn.sub ?_⟩⟩
    · unfold Builtin.delete_
      simp only [Nat.zero_add] at hfind
      simp [run_underlying hu, run_getMap hb, hK.check, hfind, run_setMap _ hb]
    · rw [← erase_del hnl h3, Array.toList_eraseIdxIfInBounds]
      rw [map_erase, hl, map_erase]
    · rw [Array.toList_eraseIdxIfInBounds]; exact List.eraseIdx_sublist _ _
def delOf (F : Fun P) (n i : Nat) (e : Env) : Option (TypeId × List TypeId × Value × Value) :=
  match (opOf F.B n i).op with
  | .call { callee := .builtin .delete, args := ⟨[m, x]⟩, argTypes := ⟨T :: ats⟩ } => some (T, ats, e.eval m, e.eval x)
  | _ => none
theorem OpE.mapDel (c : Nat) (T kT eT : TypeId) (ats : List TypeId) {b : Nat} {kvs : List (κ × ν)} (x : κ) {kv : Value} (hH : Holds M0 w0 w H) (ho : opOk0 F n i e = true) (hi : H[c]? = some (mp ek ev b kvs)) (hx : delOf F n i e = some (T, ats, .map (some b), kv)) (hkv : ek x = kv)
    (hT : mapTy P T = some (kT, eT)) (hK : KeyOk P kT ek) (kvs' : List (κ × ν)) (he : delK kvs x = kvs') (hn : ∀ w', Holds M0 w0 w' (H.set c (mp ek ev b kvs')) → Kp [b] w w' → K e w') : OpE F n i e w K := by
  subst hkv he
  obtain ⟨es, clock, hr, hok⟩ := run_delete (x := x) (ty := (opOf F.B n i).type) ats hT hK (hH.get c hi)
  obtain ⟨h1, h2⟩ := hH.put hi b rfl (mp ek ev b (delK kvs x)) rfl (.map es clock) (fun _ => hok)
  refine OpE.run0 (v := .tuple #[]) ho ?_ (hn _ h1 h2)
  unfold delOf at hx
  split at hx
  · next m x' T' ats' hop =>
    simp only [Option.some.injEq, Prod.mk.injEq] at hx
    obtain ⟨rfl, rfl, h3, h4⟩ := hx
    unfold execOp
    simp [hop, resolve, invoke, builtin, h3, h4, hr]
  · cases hx
theorem Holds.releaseMap (h : Holds M0 w0 w H) (c : Nat) {b : Nat} {kvs : List (κ × ν)} (hi : H[c]? = some (mp ek ev b kvs)) : Holds M0 w0 w (H.set c (mpR ek ev b kvs)) := by
  refine h.turn c hi h.below (Nat.le_refl _) (fun _ _ _ => rfl) (fun b hb => by simp [mpR] at hb) (by simp [mpR]) (fun hM => ⟨fun hm => ?_, h.get c hi⟩)
  have hbm : b ∈ (mp ek ev b kvs).mine := List.mem_singleton.2 rfl
  rcases hm with hm | hm
  · have h1 := h.mine b (List.mem_flatMap.2 ⟨_, List.mem_of_getElem? hi, hbm⟩)
    have := h.old b hm
    omega
  · obtain ⟨x, hx, hbx⟩ := List.mem_flatMap.1 hm
    obtain ⟨j, hj⟩ := List.mem_iff_getElem?.1 hx
    by_cases hjc : c = j
    · subst hjc
      rw [List.getElem?_set_self (List.getElem?_eq_some_iff.1 hi).1] at hj
      cases hj
      simp [mpR] at hbx
    · rw [List.getElem?_set_ne hjc] at hj
      exact hjc (nodup_at h.nodup hi hj hbm hbx)
def itr (ek : κ → Value) (ev : ν → Value) (r b : Nat) (left : List (κ × ν)) (cur : Option (κ × ν)) : Chunk :=
  ⟨[r], fun w M => ¬ M b ∧ ∃ (es : Array MapEntry) (clock since c0 : Nat) (seen : Array Nat), w.heap[r]? = some (.mapIter (some b) since seen c0) ∧ w.heap[b]? = some (.map es clock) ∧ (es.toList.map (·.born)).Nodup ∧ (∀ x ∈ es.toList, x.born < since) ∧ since ≤ c0 ∧ since ≤ clock ∧
      (∃ l : List (κ × ν), l.Perm left ∧ (leftOf es seen).toList.map (fun e => (e.key, e.val)) = l.map (fun p => (ek p.1, ev p.2))) ∧
      (match cur with | none => True | some p => ∃ e ∈ es.toList, e.key = ek p.1 ∧ e.val = ev p.2 ∧ (∃ s : Array Nat, seen = s.push e.born) ∧ c0 = clock),
    fun {_ _ _ _} h1 h2 h3 hh => let ⟨hm, es, clock, since, c0, seen, h4, h5, h6⟩ := hh; have hr := (Array.getElem?_eq_some_iff.1 h4).1; have hb := (Array.getElem?_eq_some_iff.1 h5).1
      ⟨fun h7 => hm (h3 b hb h7), es, clock, since, c0, seen, (h2 r hr (.inl (List.mem_singleton.2 rfl))).trans h4, (h2 b hb (.inr hm)).trans h5, h6⟩⟩
def rngMapOf (F : Fun P) (n i : Nat) (e : Env) : Option (TypeId × Value) :=
  match (opOf F.B n i).op with
  | .range T x => some (T, e.eval x)
  | _ => none
theorem OpE.rangeMap (d c : Nat) (T kT eT : TypeId) {b : Nat} {kvs : List (κ × ν)} (hH : Holds M0 w0 w H) (ho : opOk F n i e d = true) (hi : H[c]? = some (mpR ek ev b kvs)) (hx : rngMapOf F n i e = some (T, .map (some b))) (hT : mapTy P T = some (kT, eT))
    (hn : ∀ w' r, Holds M0 w0 w' (H ++ [itr ek ev r b kvs none]) → Below w.heap.size w w' → w.heap.size ≤ r → K ((d, .pointer (some ⟨r, 0, none⟩)) :: e) w') : OpE F n i e w K := by
  obtain ⟨hM, hnd, es, clock, l, hp, hl, hb, hbn⟩ := hH.get c hi
  have hu := mapTy_spec hT
  have hbl : Below w.heap.size w (w.alloc (.mapIter (some b) clock #[] clock)) := (Below.refl _ w).alloc (Nat.le_refl _) _
  have hlt := (Array.getElem?_eq_some_iff.1 hb).1
  have hHn : Holds M0 w0 (w.alloc (.mapIter (some b) clock #[] clock)) (H ++ [itr ek ev w.heap.size b kvs none]) := by
    have h1 := hH.call hbl
    have hsz : (w.alloc (.mapIter (some b) clock #[] clock)).heap.size = w.heap.size + 1 := by simp
    have hm2 : mines (H ++ [itr ek ev w.heap.size b kvs none]) = mines H ++ [w.heap.size] := by simp [mines, itr]
    have hMs : ∀ x, x < w.heap.size → Mset M0 (H ++ [itr ek ev w.heap.size b kvs none]) x → Mset M0 H x := by
      intro x hx hm
      rcases hm with hm | hm
      · exact .inl hm
      · rw [hm2] at hm
        rcases List.mem_append.1 hm with hm | hm
        · exact .inr hm
        · simp at hm; omega
    refine ⟨h1.below, h1.old, fun c hc => ?_, fun b hb' => ?_, ?_⟩
    · rcases List.mem_append.1 hc with hc | hc
      · exact c.keep hbl.size (fun b hlt _ => hbl.block b hlt) hMs (hH.ok c hc)
      · rw [List.mem_singleton.1 hc]
        refine ⟨fun hm => hM (hMs b hlt hm), es, clock, clock, clock, #[], alloc_new w _, (hbl.block b hlt).trans hb, hbn.1, hbn.2, Nat.le_refl _, Nat.le_refl _, ⟨l, hp, ?_⟩, trivial⟩
        have : leftOf es #[] = es := by unfold leftOf; simp
        rw [this]; exact hl
    · rw [hm2] at hb'
      rcases List.mem_append.1 hb' with hb' | hb'
      · exact h1.mine b hb'
      · have := hH.below.size
        simp at hb'
        omega
    · rw [hm2]
      refine List.nodup_append.2 ⟨hH.nodup, by simp, fun u hu v hv huv => ?_⟩
      have := (hH.mine u hu).2
      simp at hv
      omega
  refine OpE.run d ho ?_ (hn _ _ hHn hbl (Nat.le_refl _))
  unfold rngMapOf at hx
  cases hop : (opOf F.B n i).op <;> simp only [hop] at hx <;> first | (cases hx; done) | skip
  simp only [Option.some.injEq, Prod.mk.injEq] at hx
  obtain ⟨rfl, h3⟩ := hx
  unfold execOp
  simp [hop, h3, Instr.range, run_underlying hu, run_getMap hb, run_newObj_alloc]
def nextOf (F : Fun P) (n i : Nat) (e : Env) : Option Value :=
  match (opOf F.B n i).op with
  | .next x false => some (e.eval x)
  | _ => none
theorem left_erase {es : Array MapEntry} {seen : Array Nat} {x : MapEntry} (hn : (es.toList.map (·.born)).Nodup) (hx : x ∈ (leftOf es seen).toList) : (leftOf es seen).toList.Perm (x :: (leftOf es (seen.push x.born)).toList) := by
  have hnl : ((leftOf es seen).toList.map (·.born)).Nodup := by
    refine (List.Sublist.map _ ?_).nodup hn
    unfold leftOf; rw [Array.toList_filter]; exact List.filter_sublist
  have h1 : (leftOf es (seen.push x.born)).toList = (leftOf es seen).toList.filter (fun y => !(y.born == x.born)) := by
    unfold leftOf
    rw [Array.toList_filter, Array.toList_filter, List.filter_filter]
    refine List.filter_congr fun y _ => ?_
    rw [contains_push, Bool.not_or, Bool.and_comm]
  rw [h1]
  generalize (leftOf es seen).toList = L at hx hnl
  obtain ⟨s, t, rfl⟩ := List.append_of_mem hx
  have hd : ∀ y ∈ s ++ t, (y.born == x.born) = false := by
    intro y hy
    rw [List.map_append, List.map_cons] at hnl
    have h2 := List.nodup_append.1 hnl
    have h3 := List.nodup_cons.1 h2.2.1
    cases hb : y.born == x.born with
    | false => rfl
    | true =>
      have hb := eq_of_beq hb
      rcases List.mem_append.1 hy with hy | hy
      · exact absurd hb (h2.2.2 _ (List.mem_map.2 ⟨y, hy, rfl⟩) _ List.mem_cons_self)
      · exact absurd (List.mem_map.2 ⟨y, hy, hb⟩) h3.1
  rw [List.filter_append, List.filter_cons]
  simp only [beq_self_eq_true, Bool.not_true, Bool.false_eq_true, if_false]
  rw [← List.filter_append, List.filter_eq_self.2 (fun y hy => by rw [hd y hy]; rfl)]
  exact List.perm_middle
theorem OpE.nextMap (d c : Nat) {r b : Nat} {left : List (κ × ν)} {cur : Option (κ × ν)} (hH : Holds M0 w0 w H) (ho : opOk F n i e d = true) (hi : H[c]? = some (itr ek ev r b left cur)) (hx : nextOf F n i e = some (.pointer (some ⟨r, 0, none⟩)))
    (h0 : left = [] → K ((d, .tuple #[.bool false]) :: e) w)
    (h1 : ∀ (p : κ × ν) (left' : List (κ × ν)) (w' : World), left.Perm (p :: left') → Holds M0 w0 w' (H.set c (itr ek ev r b left' (some p))) → K ((d, .tuple #[.bool true, ek p.1, ev p.2]) :: e) w') : OpE F n i e w K := by
  obtain ⟨hM, es, clock, since, c0, seen, hr, hb, hnd, hold, hsc, hscl, ⟨l, hp, hl⟩, -⟩ := hH.get c hi
  have hop : ∃ a, (opOf F.B n i).op = .next a false ∧ e.eval a = .pointer (some ⟨r, 0, none⟩) := by
    unfold nextOf at hx
    split at hx
    · next a hop => exact ⟨a, hop, Option.some.inj hx⟩
    · cases hx
  obtain ⟨a, hop, ha⟩ := hop
  rcases Go.run_next_at (P := P) w (opOf F.B n i).type r b since c0 seen es clock hr hb hold hsc with ⟨hz, hrun⟩ | ⟨x, hxl, w1, hw1, hrun⟩
  · refine OpE.run d ho ?_ (h0 ?_)
    · unfold execOp
      simp [hop, ha, hrun]
    · have h2 : (leftOf es seen).toList = [] := by
        rw [Array.eq_empty_of_size_eq_zero hz]
      rw [h2] at hl
      have : l = [] := by cases l with | nil => rfl | cons a l => simp at hl
      subst this
      exact hp.symm.eq_nil
  · have hper := left_erase hnd hxl
    obtain ⟨l2, hl2, hl3⟩ : ∃ l2 : List (κ × ν), l.Perm l2 ∧ (x :: (leftOf es (seen.push x.born)).toList).map (fun e => (e.key, e.val)) = l2.map (fun p => (ek p.1, ev p.2)) := by
      have := hper.map (fun e : MapEntry => (e.key, e.val))
      rw [hl] at this
      exact perm_pull _ rfl this
    cases l2 with
    | nil => simp at hl3
    | cons p l3 =>
      simp only [List.map_cons, List.cons.injEq, Prod.mk.injEq] at hl3
      obtain ⟨⟨hk, hv⟩, hl4⟩ := hl3
      have hH1 : Holds M0 w0 w1 H := by rcases hw1 with rfl | rfl; exact hH; exact hH.drew
      have hr1 : w1.heap[r]? = some (.mapIter (some b) since seen c0) := by rcases hw1 with rfl | rfl <;> exact hr
      have hb1 : w1.heap[b]? = some (.map es clock) := by rcases hw1 with rfl | rfl <;> exact hb
      have hne : r ≠ b := by intro h; subst h; rw [hr] at hb; cases hb
      have hlt := (Array.getElem?_eq_some_iff.1 hr1).1
      have hrm : r ∈ (itr ek ev r b left cur).mine := List.mem_singleton.2 rfl
      have hmr := hH1.mine r (List.mem_flatMap.2 ⟨_, List.mem_of_getElem? hi, hrm⟩)
      have h := hH1.below
      have h5 : Holds M0 w0 (w1.putObj r (.mapIter (some b) since (seen.push x.born) clock)) (H.set c (itr ek ev r b l3 (some p))) :=
        hH1.turn c hi ⟨h.os, h.tape, h.output, by simp; exact h.size, fun y hy => by rw [World.putObj_heap_other (by omega)]; exact h.block y hy⟩ (by simp)
          (fun y _ hy => World.putObj_heap_other (fun h => hy (by rw [h]; exact hrm))) (fun y hy => .inl hy) (by simp [itr])
          (fun hM2 => ⟨fun hm => hM (hM2 b (Array.getElem?_eq_some_iff.1 hb1).1 hm), es, clock, since, clock, seen.push x.born, World.putObj_heap_same hlt, (World.putObj_heap_other (fun h => hne h.symm)).trans hb1, hnd, hold, hscl, hscl,
            ⟨l3, .refl _, hl4⟩, x, (Go.mem_left hxl).1, hk, hv, ⟨seen, rfl⟩, rfl⟩)
      refine OpE.run d ho ?_ (h1 p l3 _ (hp.symm.trans hl2) h5)
      unfold execOp
      simp only [hop, ha]
      simp [hrun, hk, hv]
      rfl
def entryOf (F : Fun P) (n i : Nat) (e : Env) : Option Value :=
  match (opOf F.B n i).op with
  | .entry x => some (e.eval x)
  | _ => none
theorem OpE.entryMap (d c : Nat) {r b : Nat} {left : List (κ × ν)} (p : κ × ν) (hH : Holds M0 w0 w H) (ho : opOk F n i e d = true) (hi : H[c]? = some (itr ek ev r b left (some p))) (hx : entryOf F n i e = some (.pointer (some ⟨r, 0, none⟩)))
    (hn : K ((d, .tuple #[ek p.1, ev p.2]) :: e) w) : OpE F n i e w K := by
  obtain ⟨hM, es, clock, since, c0, seen, hr, hb, hnd, hold, hsc, hscl, -, x, hx2, hk, hv, ⟨s, rfl⟩, rfl⟩ := hH.get c hi
  have hrun := Go.run_entry_at (P := P) w r b since s es c0 x hr hb hx2 hnd
  refine OpE.run d ho ?_ hn
  unfold entryOf at hx
  split at hx
  · next a hop =>
    have ha := Option.some.inj hx
    unfold execOp
    simp [hop, ha, hrun, hk, hv]
  · cases hx
end
end Go.Eng
