/- A region that draws its order: what hands back the same value in every world that may come may be taken first. -/
import Derived.Test.YtbcepghanbkncaaGreatDoorEngOps
set_option linter.unusedVariables false
set_option linter.unusedSimpArgs false
namespace Go.Eng
open Go.RowKit

section
variable {P : Program} {ro : Option Nat} {ops : Array Oper} {Q : Exit → Act → World → Prop} {S : World → Prop}
def Up (w w' : World) : Prop := Below w.heap.size w w'
theorem Up.refl (w : World) : Up w w := Below.refl _ _
theorem Up.trans {a b c : World} (h : Up a b) (k : Up b c) : Up a c := Below.trans h (Below.mono k (show a.heap.size ≤ b.heap.size from Below.size h))
def afters (ops : Array Oper) (j : Nat) : List Nat := match ops[j]? with | some o => (o.after.toList.filter fun e => Region.binds .any e).map (·.on) | none => []
def reach (ops : Array Oper) : Nat → List Nat → List Nat
  | 0, l => l
  | f + 1, l => reach ops f (l ++ l.flatMap (afters ops)).eraseDups
def Closed (ops : Array Oper) (l : Array Bool) : Prop := ∀ j o, ops[j]? = some o → l.getD j false = true → ∀ e ∈ o.after, Region.binds .any e = true → l.getD e.on false = true
def closed (ops : Array Oper) (l : Array Bool) : Bool := (List.range ops.size).all fun j => !l.getD j false || match ops[j]? with | some o => o.after.all fun e => !Region.binds .any e || l.getD e.on false | none => true
theorem closed_spec {ops : Array Oper} {l : Array Bool} (h : closed ops l = true) : Closed ops l := fun j o hj hl e he hb => by
  have h1 := List.all_eq_true.1 h j (List.mem_range.2 (Array.getElem?_eq_some_iff.1 hj).1)
  simp only [hl, hj, Bool.not_true, Bool.false_or] at h1
  have := Array.all_eq_true'.1 h1 e he
  simpa [hb] using this
theorem afters_done {ops : Array Oper} {l : Array Bool} {j : Nat} {o : Oper} (hj : ops[j]? = some o) (ha : ∀ e ∈ o.after, Region.binds .any e = true → l.getD e.on false = true) : ∀ x ∈ afters ops j, l.getD x false = true := by
  intro x hx
  simp only [afters, hj, List.mem_map, List.mem_filter, Array.mem_toList_iff] at hx
  obtain ⟨e, ⟨he, hb⟩, rfl⟩ := hx
  exact ha e he hb
theorem reach_done {ops : Array Oper} {l : Array Bool} (hc : Closed ops l) : ∀ (f : Nat) (r : List Nat), (∀ x ∈ r, l.getD x false = true) → ∀ x ∈ reach ops f r, l.getD x false = true
  | 0, r, h => h
  | f + 1, r, h => reach_done hc f _ (fun x hx => by
    rw [List.mem_eraseDups] at hx
    rcases List.mem_append.1 hx with hx | hx
    · exact h x hx
    · obtain ⟨j, hj, hx⟩ := List.mem_flatMap.1 hx
      cases ho : ops[j]? with
      | none => simp [afters, ho] at hx
      | some o => exact afters_done ho (hc j o ho (h j hj)) x hx)
theorem Closed.set {ops : Array Oper} {l : Array Bool} {i : Nat} {o : Oper} (hc : Closed ops l) (hi : ops[i]? = some o) (ha : ∀ e ∈ o.after, Region.binds .any e = true → l.getD e.on false = true) : Closed ops (l.setIfInBounds i true) := by
  have grow : ∀ x, l.getD x false = true → (l.setIfInBounds i true).getD x false = true := fun x h => by
    by_cases hx : i = x
    · subst hx
      rcases Nat.lt_or_ge i l.size with h' | h'
      · simp [h']
      · simp [h'] at h
    · rw [getD_set_ne false hx]; exact h
  intro j o' hj hl e he hb
  by_cases hx : i = j
  · subst hx
    rw [hi] at hj
    cases hj
    exact grow _ (ha e he hb)
  · rw [getD_set_ne false hx] at hl
    exact grow _ (hc j o' hj hl e he hb)
def lastOp (ops : Array Oper) (i : Nat) : Bool := (ops[i]?).isSome && (List.range ops.size).all fun k => k == i || (reach ops 8 (afters ops i)).elem k
theorem lastOp_spec {ops : Array Oper} {i : Nat} (h : lastOp ops i = true) {k : Nat} (hk : k < ops.size) (hne : k ≠ i) : k ∈ reach ops 8 (afters ops i) := by
  simp only [lastOp, Bool.and_eq_true, List.all_eq_true, List.mem_range, Bool.or_eq_true, beq_iff_eq, List.elem_eq_mem, decide_eq_true_eq] at h
  exact (h.2 k hk).resolve_left hne
def AnyU (P : Program) (ro : Option Nat) (ops : Array Oper) (Q : Exit → Act → World → Prop) (S : World → Prop) : Nat → Array Bool → Act → World → Prop
  | 0, l, a, w => Region.ready .any ops l = [] ∧ ∀ w2, Up w w2 → Q .normal a w2
  | m + 1, l, a, w => ∀ w2, Up w w2 → (Region.ready .any ops l = [] → Q .normal a w2) ∧
      ∀ i ∈ Region.ready .any ops l, wpOpIn (Fw ro) 0 P ops Q i (fun a' w' => (lastOp ops i = false → S w') ∧ AnyU P ro ops Q S m (l.setIfInBounds i true) a' w') a w2
theorem AnyU.up {m : Nat} {l : Array Bool} {a : Act} {w w' : World} (h : AnyU P ro ops Q S m l a w) (hu : Up w w') : AnyU P ro ops Q S m l a w' := by
  cases m with
  | zero => exact ⟨h.1, fun w2 h2 => h.2 w2 (hu.trans h2)⟩
  | succ m => exact fun w2 h2 => h w2 (hu.trans h2)
theorem AnyU.any : ∀ (m : Nat) {l : Array Bool} {a : Act} {w : World}, AnyU P ro ops Q S m l a w → wpAnyIn (Fw ro) 0 P .any ops Q m l a w
  | 0, _, _, w, h => ⟨h.1, h.2 w (Up.refl w)⟩
  | m + 1, _, _, w, h => ⟨(h w (Up.refl w)).1, fun i hi => wpOpIn_mono (fun a' w' h' => AnyU.any m h'.2) ((h w (Up.refl w)).2 i hi)⟩
def Yld (P : Program) (S : World → Prop) (o : Oper) (v : Value) (a : Act) : Prop :=
  ∀ w, S w → (execOp a.eval o).run P w = .ok (.value v) w ∨ ∃ g args, (execOp a.eval o).run P w = .ok (.enter g args) w ∧ Calls P g args w fun e w1 => e = .returned v ∧ Up w w1
def YldIf (P : Program) (ops : Array Oper) (S : World → Prop) (o : Oper) (v : Value) (a : Act) : Prop :=
  (Region.wanted o (yielded ops a.tmps) = true ∧ Yld P S o v a) ∨ (Region.wanted o (yielded ops a.tmps) = false ∧ v = undef)
theorem YldIf.of_same {o : Oper} {v : Value} {a a' : Act} (hy : YldIf P ops S o v a) (he : execOp a'.eval o = execOp a.eval o)
    (hw : Region.wanted o (yielded ops a'.tmps) = Region.wanted o (yielded ops a.tmps)) : YldIf P ops S o v a' := by
  unfold YldIf Yld at *
  rw [he, hw]
  exact hy
theorem YldIf.wpOp {i : Nat} {o : Oper} {v : Value} {a : Act} (hi : ops[i]? = some o) (hy : YldIf P ops S o v a) {J : Act → World → Prop} {w : World} (hd : ∀ c, o.op ≠ .defer c) (hS : S w) (h : ∀ w1, Up w w1 → J (a.put o.dst v) w1) : wpOpIn (Fw ro) 0 P ops Q i J a w := by
  unfold Go.wpOpIn
  simp only [hi]
  rcases hy with ⟨hw, hv⟩ | ⟨hw, rfl⟩
  · rw [if_pos hw]
    rcases hv w hS with hr | ⟨g, args, hr, hc⟩
    · exact wp_value hd hr (h w (Up.refl w))
    · exact wp_enter hd hr (hc.mono fun e w1 ⟨he, hu⟩ => ⟨v, he, h w1 hu⟩)
  · rw [if_neg (by rw [hw]; exact Bool.false_ne_true)]; exact ⟨fun _ _ => trivial, h w (Up.refl w)⟩
theorem wpOp_putY {j : Nat} {oi oj : Oper} {v : Value} (hj : ops[j]? = some oj) (hap : oi.apart ops oj = true) (hsi : ∀ cs b, oi.op ≠ .select cs b) (hsj : ∀ cs b, oj.op ≠ .select cs b) (hdj : ∀ c, oj.op ≠ .defer c)
    (hQ : ∀ c a w, Q (.panic c) (a.put oi.dst v) w → Q (.panic c) a w) {J : Act → World → Prop} {a : Act} {w : World} (hy : YldIf P ops S oi v a) (h : wpOpIn (Fw ro) 0 P ops Q j J (a.put oi.dst v) w) :
    wpOpIn (Fw ro) 0 P ops Q j (fun a' w' => YldIf P ops S oi v a' ∧ J (a'.put oi.dst v) w') a w := by
  obtain ⟨h1, h2, h3⟩ := Oper.apart_spec hap
  have keep : ∀ (a : Act), YldIf P ops S oi v a → ∀ u, YldIf P ops S oi v (a.put oj.dst u) := fun a hy u => hy.of_same (execOp_put oi hsi a oj.dst u h3) (wanted_put oi a oj.dst u h3)
  have keepD : ∀ d, YldIf P ops S oi v { a with defers := d :: a.defers } := fun d => hy.of_same rfl rfl
  unfold Go.wpOpIn at *
  simp only [hj] at *
  rw [wanted_put oj a oi.dst v h1] at h
  split
  · rename_i hw
    rw [if_pos hw] at h
    unfold Oper.wpIn at *
    refine ⟨fun _ _ => trivial, ?_⟩
    have h := h.2
    rw [Oper.semAt_eq _ _ _ hdj, execOp_put oj hsj a oi.dst v h1] at h
    rw [Oper.semAt_eq _ _ _ hdj]
    generalize (execOp a.eval oj).run P w = r at *
    cases r with
    | ok x w' =>
      cases x <;> simp only [Oper.uponIn] at h ⊢
      case value u => exact ⟨keep a hy u, by rw [← Act.put_comm a v u h2]; exact h⟩
      case skip => exact ⟨keep a hy _, by rw [← Act.put_comm a v undef h2]; exact h⟩
      case defer d => exact ⟨keep _ (keepD d) _, by rw [← Act.put_comm _ v undef h2, ← Act.put_defers]; exact h⟩
      case enter f args =>
        refine ⟨h.1, CallsIn.mono h.2 fun e w'' he => ?_⟩
        cases e with
        | returned u => exact ⟨keep a hy u, by rw [← Act.put_comm a v u h2]; exact he⟩
        | panicked c => exact hQ _ _ _ he
        | outgrown => exact he
      case row row args => exact ⟨h.1, RowsIn.mono h.2 fun u w'' he => ⟨keep a hy u, by rw [← Act.put_comm a v u h2]; exact he⟩⟩
      case round l f tmps assign body =>
        refine ⟨h.1, RoundIn.mono h.2 fun e w'' he => ?_⟩
        cases e with
        | returned u => exact ⟨keep a hy u, by rw [← Act.put_comm a v u h2]; exact he⟩
        | panicked c => exact hQ _ _ _ he
        | outgrown => exact he
    | halt x w' =>
      cases x <;> simp only [Oper.uponIn] at h ⊢
      case panic u => exact hQ _ _ _ h
  · rename_i hw
    rw [if_neg hw] at h
    exact ⟨fun _ _ => trivial, keep a hy _, by rw [← Act.put_comm a v undef h2]; exact h.2⟩
def noDefer (ops : Array Oper) : Bool := ops.all fun o => match o.op with | .defer .. => false | _ => true
theorem noDefer_spec {ops : Array Oper} (h : noDefer ops = true) (j : Nat) (o : Oper) (c : Call) (ho : ops[j]? = some o) : o.op ≠ .defer c := fun hs => by
  have := Array.all_eq_true'.1 h o (Array.mem_of_getElem? ho)
  rw [hs] at this
  cases this
theorem AnyU.first (hSup : ∀ w w', S w → Up w w' → S w') {i : Nat} {oi : Oper} {v : Value} (hi : ops[i]? = some oi) (hsel : ∀ (j : Nat) (o : Oper) cs b, ops[j]? = some o → o.op ≠ .select cs b) (hdef : ∀ (j : Nat) (o : Oper) c, ops[j]? = some o → o.op ≠ .defer c)
    (hQ : ∀ c a w, Q (.panic c) (a.put oi.dst v) w → Q (.panic c) a w) : ∀ (m : Nat) (l : Array Bool) (a : Act) (w : World), Closed ops l →
      (∀ j oj, ops[j]? = some oj → j ≠ i → l.getD j true = false → (∀ e ∈ oj.after, Region.binds .any e = true → e.on ≠ i) → oi.apart ops oj = true) →
      i ∈ Region.ready .any ops l → YldIf P ops S oi v a → S w → AnyU P ro ops Q S m (l.setIfInBounds i true) (a.put oi.dst v) w → AnyU P ro ops Q S (m + 1) l a w := by
  intro m
  induction m with
  | zero =>
    intro l a w _ _ hr hy hS H w2 hu
    refine ⟨fun h => (by rw [h] at hr; cases hr), fun j hj => ?_⟩
    by_cases hji : j = i
    · subst hji
      exact hy.wpOp hi (fun c => hdef _ _ c hi) (hSup _ _ hS hu) fun w1 h1 => ⟨fun _ => hSup _ _ hS (hu.trans h1), H.up (hu.trans h1)⟩
    · have := ready_mono hj hji
      rw [H.1] at this
      cases this
  | succ m ih =>
    intro l a w hcl hfree hr hy hS H w2 hu
    refine ⟨fun h => (by rw [h] at hr; cases hr), fun j hj => ?_⟩
    by_cases hji : j = i
    · subst hji
      exact hy.wpOp hi (fun c => hdef _ _ c hi) (hSup _ _ hS hu) fun w1 h1 => ⟨fun _ => hSup _ _ hS (hu.trans h1), H.up (hu.trans h1)⟩
    · have h1 := (H w2 hu).2 j (ready_mono hj hji)
      obtain ⟨hjun, oj, hoj, hall⟩ := mem_ready.1 hj
      have hnot : ∀ e ∈ oj.after, Region.binds .any e = true → e.on ≠ i := fun e he hb heq => by
        have h1 := hall e he hb
        have h0 := (mem_ready.1 hr).1
        rw [heq] at h1
        rcases Nat.lt_or_ge i l.size with h' | h'
        · simp [h'] at h0 h1; rw [h0] at h1; cases h1
        · simp [Array.getElem?_eq_none h'] at h1
      have h2 := wpOp_putY hoj (hfree j oj hoj hji hjun hnot) (fun cs b => hsel i oi cs b hi) (fun cs b => hsel j oj cs b hoj) (fun c => hdef j oj c hoj) hQ hy h1
      have hfree' : ∀ k ok, ops[k]? = some ok → k ≠ i → (l.setIfInBounds j true).getD k true = false →
          (∀ e ∈ ok.after, Region.binds .any e = true → e.on ≠ i) → oi.apart ops ok = true := fun k ok hk hki hun hno => by
        refine hfree k ok hk hki ?_ hno
        by_cases hjk : j = k
        · subst hjk; exact hjun
        · rw [getD_set_ne true hjk] at hun; exact hun
      have hlast : lastOp ops j = false := by
        cases hl : lastOp ops j with
        | false => rfl
        | true =>
          have h3 := reach_done hcl 8 _ (afters_done hoj hall) i (lastOp_spec hl (Array.getElem?_eq_some_iff.1 hi).1 (Ne.symm hji))
          have h0 := (mem_ready.1 hr).1
          rcases Nat.lt_or_ge i l.size with h' | h'
          · simp [h'] at h0 h3; rw [h0] at h3; cases h3
          · simp [h'] at h3
      refine wpOpIn_mono (fun a' w' h3 => ⟨h3.2.1, ih (l.setIfInBounds j true) a' w' (hcl.set hoj hall) hfree' (ready_mono hr (Ne.symm hji)) h3.1 (h3.2.1 hlast) ?_⟩) h2
      rw [Array.setIfInBounds_comm _ _ hji]
      exact h3.2.2
end

def listed (n : Nat) : List Nat → Array Bool
  | [] => Array.replicate n false
  | i :: r => (listed n r).setIfInBounds i true
section
variable {P : Program} {F : Fun P} {k : List It} {e e' : Env} {w w' w0 : World} {R : Ending → World → Prop} {n i : Nat} {S : World → Prop} {l : List Nat} {m : Nat}
def AnyE (F : Fun P) (n : Nat) (k : List It) (S : World → Prop) (m : Nat) (l : List Nat) (e : Env) (w : World) (R : Ending → World → Prop) : Prop :=
  ∀ a, Agree F.N F.ds e a → AnyU P F.ro (opsOf F.B n) (Qk P F.f F.ro (k.map (It.item F.B)) R) S m (listed (opsOf F.B n).size l) a w
theorem RunsI.any (m : Nat) (h : isRegion F.B n true = true) (hm : P.follows .mixedOrders = true) (hz : (opsOf F.B n).size = m) (S : World → Prop) (hn : AnyE F n k S m [] e w.drew R) : RunsI F (.c n :: k) e w R := by
  obtain ⟨id, hid⟩ := isRegion_spec h
  intro a ha
  simp only [List.map_cons, It.item, hid]
  refine runs_of_wp (wpIn_region_any hm ?_)
  rw [hz]
  have := AnyU.any m (hn a ha)
  simp only [listed, hz] at this
  exact this
def takeOk (F : Fun P) (n : Nat) (l : List Nat) (i d : Nat) (e : Env) : Bool :=
  opOk F n i e d && (Region.noSelect (opsOf F.B n) && noDefer (opsOf F.B n) && closed (opsOf F.B n) (listed (opsOf F.B n).size l)) && Region.free .any (opsOf F.B n) (listed (opsOf F.B n).size l) i && (Region.ready .any (opsOf F.B n) (listed (opsOf F.B n).size l)).contains i
theorem AnyE.take (i d : Nat) (v : Value) (hSup : ∀ w w', S w → Up w w' → S w') (ho : takeOk F n l i d e = true) (hS : S w)
    (hy : ∀ w, S w → (execOp e.eval (opOf F.B n i)).run P w = .ok (.value v) w ∨ ∃ g args, (execOp e.eval (opOf F.B n i)).run P w = .ok (.enter g args) w ∧ Calls P g args w fun e w1 => e = .returned v ∧ Up w w1)
    (hn : AnyE F n k S m (i :: l) ((d, v) :: e) w R) : AnyE F n k S (m + 1) l e w R := by
  simp only [takeOk, Bool.and_eq_true] at ho
  obtain ⟨⟨⟨h0, h1⟩, h2⟩, h3⟩ := ho
  obtain ⟨g1, g2, g3, g4, g5⟩ := opOk_spec h0
  intro a ha
  have hi := at_op g1
  refine AnyU.first (v := v) hSup hi (Region.noSelect_spec h1.1.1) (noDefer_spec h1.1.2) (fun c a w hq => hq) m _ a w (closed_spec h1.2) (Region.free_spec hi h2) (by simpa using h3) (.inl ⟨wanted_agree ha g2, ?_⟩) hS ?_
  · intro w1 h1
    rw [exec_agree ha g3]
    exact hy w1 h1
  · rw [g4]
    exact hn _ (ha.put (by simpa using g5) v)
def offOk (F : Fun P) (n : Nat) (l : List Nat) (i d : Nat) (e : Env) : Bool :=
  Nat.blt i (opsOf F.B n).size && (match wantedE (opsOf F.B n) e (opOf F.B n i) with | some b => !b | none => false) && (match (opOf F.B n i).dst with | some x => Nat.beq x d && Nat.blt d F.N | none => false) &&
  (Region.noSelect (opsOf F.B n) && noDefer (opsOf F.B n) && closed (opsOf F.B n) (listed (opsOf F.B n).size l)) && Region.free .any (opsOf F.B n) (listed (opsOf F.B n).size l) i && (Region.ready .any (opsOf F.B n) (listed (opsOf F.B n).size l)).contains i
theorem AnyE.off (i d : Nat) (hSup : ∀ w w', S w → Up w w' → S w') (ho : offOk F n l i d e = true) (hS : S w) (hn : AnyE F n k S m (i :: l) ((d, undef) :: e) w R) : AnyE F n k S (m + 1) l e w R := by
  simp only [offOk, Bool.and_eq_true] at ho
  obtain ⟨⟨⟨⟨⟨g1, g2⟩, g4⟩, h1⟩, h2⟩, h3⟩ := ho
  intro a ha
  have hi := at_op g1
  have hw : wantedE (opsOf F.B n) e (opOf F.B n i) = some false := by
    cases hw : wantedE (opsOf F.B n) e (opOf F.B n i) with
    | none => simp [hw] at g2
    | some b => simp only [hw] at g2; cases b <;> simp_all
  cases hd : (opOf F.B n i).dst with
  | none => simp [hd] at g4
  | some x =>
    simp only [hd, Bool.and_eq_true] at g4
    have hxd := Nat.eq_of_beq_eq_true g4.1
    subst hxd
    refine AnyU.first (v := undef) hSup hi (Region.noSelect_spec h1.1.1) (noDefer_spec h1.1.2) (fun c a w hq => hq) m _ a w (closed_spec h1.2) (Region.free_spec hi h2) (by simpa using h3) (.inr ⟨wanted_agree ha hw, rfl⟩) hS ?_
    rw [hd]
    exact hn _ (ha.put (by simpa using g4.2) undef)
theorem AnyE.one (i : Nat) (hr : Region.ready .any (opsOf F.B n) (listed (opsOf F.B n).size l) = [i]) (h : ∀ w2, Up w w2 → OpE F n i e w2 (fun e' w' => S w' ∧ AnyE F n k S m (i :: l) e' w' R)) : AnyE F n k S (m + 1) l e w R := by
  intro a ha w2 hu
  refine ⟨fun h0 => (by rw [hr] at h0; cases h0), fun j hj => ?_⟩
  rw [hr] at hj
  have := List.mem_singleton.1 hj
  subst this
  exact h w2 hu _ a _ ha (fun e' w' a' hk ha' => ⟨fun _ => hk.1, hk.2 a' ha'⟩)
theorem AnyE.two (i j : Nat) (hr : Region.ready .any (opsOf F.B n) (listed (opsOf F.B n).size l) = [i, j]) (h : ∀ w2, Up w w2 → OpE F n i e w2 (fun e' w' => S w' ∧ AnyE F n k S m (i :: l) e' w' R))
    (h' : ∀ w2, Up w w2 → OpE F n j e w2 (fun e' w' => S w' ∧ AnyE F n k S m (j :: l) e' w' R)) : AnyE F n k S (m + 1) l e w R := by
  intro a ha w2 hu
  refine ⟨fun h0 => (by rw [hr] at h0; cases h0), fun x hx => ?_⟩
  rw [hr] at hx
  rcases List.mem_cons.1 hx with rfl | hx
  · exact h w2 hu _ a _ ha (fun e' w' a' hk ha' => ⟨fun _ => hk.1, hk.2 a' ha'⟩)
  · have := List.mem_singleton.1 hx
    subst this
    exact h' w2 hu _ a _ ha (fun e' w' a' hk ha' => ⟨fun _ => hk.1, hk.2 a' ha'⟩)
theorem AnyE.last (i : Nat) (hr : Region.ready .any (opsOf F.B n) (listed (opsOf F.B n).size l) = [i]) (hl : lastOp (opsOf F.B n) i = true) (h : ∀ w2, Up w w2 → OpE F n i e w2 (fun e' w' => AnyE F n k S m (i :: l) e' w' R)) : AnyE F n k S (m + 1) l e w R := by
  intro a ha w2 hu
  refine ⟨fun h0 => (by rw [hr] at h0; cases h0), fun j hj => ?_⟩
  rw [hr] at hj
  have := List.mem_singleton.1 hj
  subst this
  exact h w2 hu _ a _ ha (fun e' w' a' hk ha' => ⟨fun h0 => (by rw [hl] at h0; cases h0), hk a' ha'⟩)
theorem AnyE.done (hr : Region.ready .any (opsOf F.B n) (listed (opsOf F.B n).size l) = []) (h : ∀ w2, Up w w2 → RunsI F k e w2 R) : AnyE F n k S m l e w R := by
  intro a ha
  cases m with
  | zero => exact ⟨hr, fun w2 hu => h w2 hu a ha⟩
  | succ m => exact fun w2 hu => ⟨fun _ => h w2 hu a ha, fun i hi => (by rw [hr] at hi; cases hi)⟩
theorem AnyE.fix (t : Nat) {c : Bool} (b : Bool) (hc : c = b) (hh : e.has t = true) (hv : e.get t = .bool c) (hn : AnyE F n k S m l ((t, .bool b) :: e) w R) : AnyE F n k S m l e w R :=
  fun a ha => hn a (Env.fix ha hh hv (by rw [hc]))
theorem AnyE.up (hu : Up w w') (h : AnyE F n k S m l e w R) : AnyE F n k S m l e w' R := fun a ha => (h a ha).up hu
end

theorem Kp.refl (T : List Nat) (w : World) : Kp T w w := ⟨Nat.le_refl _, fun _ _ _ => rfl⟩
theorem Kp.up {T : List Nat} {w w' w2 : World} (h : Kp T w w') (hu : Up w' w2) : Kp T w w2 :=
  ⟨Nat.le_trans h.1 hu.size, fun b hb hT => (hu.block b (Nat.lt_of_lt_of_le hb h.1)).trans (h.2 b hb hT)⟩
theorem Kp.drew (T : List Nat) (w : World) : Kp T w w.drew := ⟨Nat.le_refl _, fun _ _ _ => rfl⟩
theorem Kp.trans {T T' : List Nat} {w w' w2 : World} (h : Kp T w w') (k : Kp T' w' w2) (hT : ∀ b ∈ T', b ∈ T ∨ w.heap.size ≤ b) : Kp T w w2 :=
  ⟨Nat.le_trans h.1 k.1, fun b hb hbT => (k.2 b (Nat.lt_of_lt_of_le hb h.1) (fun hb' => (hT b hb').elim hbT (fun hle => by omega))).trans (h.2 b hb hbT)⟩
section
variable {P : Program} {F : Fun P} {e : Env} {w w' w0 : World} {n i : Nat} {M0 : Nat → Prop} {H : List Chunk} {T : List Nat}
theorem Holds.at (h : Holds M0 w0 w H) (hT : ∀ b ∈ T, b ∈ mines H) (hk : Kp T w w') (c : Nat) {x : Chunk} (hi : H[c]? = some x) (hx : ∀ b ∈ x.mine, b ∉ T) : x.ok w' (Mset M0 H) :=
  x.keep hk.1 (fun b hb hor => hk.2 b hb fun hbT => hor.elim (fun hm => hx b hm hbT) (fun hm => hm (.inr (hT b hbT)))) (fun _ _ hm => hm) (h.get c hi)
theorem run_load (T0 : TypeId) {b o : Nat} {cs : List Value} {v : Value} (hl : loadOf F n i e = some (T0, ⟨b, o, none⟩))
    (hcs : ∀ j u, cs[j]? = some u → w'.cell? ⟨b, o + j, none⟩ = some u) (hv : loadV P T0 cs = some v) : (execOp e.eval (opOf F.B n i)).run P w' = .ok (.value v) w' := by
  unfold loadOf at hl
  cases hop : (opOf F.B n i).op <;> simp only [hop] at hl <;> first | (cases hl; done) | skip
  rename_i T' a
  cases ha : e.eval a <;> simp only [ha] at hl <;> first | (cases hl; done) | skip
  rename_i ad
  cases ad <;> simp only [Option.some.injEq, Prod.mk.injEq] at hl <;> first | (cases hl; done) | skip
  obtain ⟨rfl, rfl⟩ := hl
  have := run_loadV (P := P) (T := T') hcs hv
  unfold execOp
  simp [hop, ha, Instr.loadAt, Instr.sureAddr, this]
theorem Holds.idx (c : Nat) (T0 : TypeId) (ix : Int) {α : Type} [Inhabited α] {dd : Rp α} {v : Value} {xs : List α} (h : Holds M0 w0 w H) (hi : H[c]? = some (sl dd v xs)) (hx : idxOf F n i e = some (T0, v, ix)) (hT : elemSz P T0 = some dd.sz) (hr : inR ix xs.length = true) :
    ∃ b o cs, dd.K w (Mset M0 H) (rdD xs ix) cs ∧ Holds M0 w0 w (H ++ [cel b o cs]) ∧ ∀ w', (execOp e.eval (opOf F.B n i)).run P w' = .ok (.value (.pointer (some ⟨b, o, none⟩))) w' := by
  obtain ⟨h0, h1⟩ := inR_spec hr
  obtain ⟨A, cp, rfl, hl, hc, hnn, hp⟩ : Sl dd w (Mset M0 H) v xs := h.get c hi
  obtain ⟨b, o, rfl, hb, hM, hcs⟩ := hp (by omega)
  have hg : xs[ix.toNat]? = some (rdD xs ix) := by
    unfold rdD
    have : ix.toNat < xs.length := by omega
    simp [this]
  obtain ⟨cs, hk, hcell⟩ := hcs _ _ hg
  exact ⟨b, o + ix.toNat * dd.sz, cs, hk, h.add _ rfl ⟨hb, hM, hcell⟩, fun w' => run_idx hx hT h0 h1⟩
theorem Holds.cut (c : Nat) (T0 : TypeId) (lo hi : Option Int) {α : Type} {dd : Rp α} {v : Value} {xs : List α} (h : Holds M0 w0 w H) (hi' : H[c]? = some (sl dd v xs)) (hx : cutOf F n i e = some (T0, v, lo, hi)) (hT : elemSz P T0 = some dd.sz)
    (hr : cutR (lo.getD 0) (hi.getD xs.length) xs.length = true) :
    ∃ A cp, Holds M0 w0 w (H ++ [sl dd (.slice A (cutL xs (lo.getD 0) (hi.getD xs.length)).length cp) (cutL xs (lo.getD 0) (hi.getD xs.length))]) ∧
      ∀ w', (execOp e.eval (opOf F.B n i)).run P w' = .ok (.value (.slice A (cutL xs (lo.getD 0) (hi.getD xs.length)).length cp)) w' := by
  simp only [cutR, Bool.and_eq_true, decide_eq_true_eq] at hr
  obtain ⟨⟨h0, h1⟩, h2⟩ := hr
  have hsl : Sl dd w (Mset M0 H) v xs := h.get c hi'
  obtain ⟨A, cp, hv, hl, hc, hnn, hp⟩ := id hsl
  have hcut := hsl.cut hv (lo.getD 0).toNat (hi.getD xs.length).toNat (by omega) (by omega)
  have hlen : (cutL xs (lo.getD 0) (hi.getD xs.length)).length = (hi.getD xs.length).toNat - (lo.getD 0).toNat := by simp [cutL]; omega
  rw [hv] at hx
  have hrun := fun w' => run_cut (w := w') hx hT h0 h1 h2 hl
  rw [← hlen] at hrun hcut
  exact ⟨_, _, h.addSl dd _ _ hcut, hrun⟩
end
section
variable {P : Program} {F : Fun P} {k : List It} {e : Env} {w w' ws w0 : World} {R : Ending → World → Prop} {n i m : Nat} {l : List Nat} {M0 : Nat → Prop} {H : List Chunk} {T : List Nat}
theorem Kp.sup {T : List Nat} {ws : World} : ∀ w w', Kp T ws w → Up w w' → Kp T ws w' := fun _ _ h u => h.up u
theorem Holds.atI (h : Holds M0 w0 ws H) (is : List Nat) (hT : mines (Eng.pick H is) = T) (hk : Kp T ws w') (c : Nat) {x : Chunk} (hi : H[c]? = some x) (hc : is.elem c = false) : x.ok w' (Mset M0 H) := by
  subst hT
  refine h.at (fun b hb => ?_) hk c hi (fun b hb hbT => ?_)
  · obtain ⟨j, _, y, hy, hby⟩ := pick_at hb
    exact List.mem_flatMap.2 ⟨y, List.mem_of_getElem? hy, hby⟩
  · obtain ⟨j, hj, y, hy, hby⟩ := pick_at hbT
    have := nodup_at h.nodup hi hy hb hby
    subst this
    simp [List.elem_eq_mem] at hc
    exact hc hj
theorem Kp.turned (h : Holds M0 w0 ws H) (is : List Nat) (hT : mines (Eng.pick H is) = T) (c : Nat) {x : Chunk} (hi : H[c]? = some x) (hc : is.elem c = true) : ∀ b ∈ x.mine, b ∈ T ∨ ws.heap.size ≤ b := fun b hb => by
  subst hT
  left
  have hm : c ∈ is := by simpa [List.elem_eq_mem] using hc
  clear hc
  induction is with
  | nil => cases hm
  | cons j r ih =>
    simp only [Eng.pick]
    by_cases hj : c = j
    · subst hj
      rw [hi]
      exact List.mem_flatMap.2 ⟨x, List.mem_cons_self, hb⟩
    · have hr : c ∈ r := by
        rcases List.mem_cons.1 hm with h1 | h1
        · exact absurd h1 hj
        · exact h1
      cases hjj : H[j]? with
      | none => exact ih hr
      | some y =>
        have := ih hr
        simp only [mines, List.flatMap_cons, List.mem_append]
        exact .inr this
theorem AnyE.pure (i d : Nat) (v : Value) (ho : takeOk F n l i d e = true) (hS : Kp T ws w) (hy : ∀ w, (execOp e.eval (opOf F.B n i)).run P w = .ok (.value v) w) (hn : AnyE F n k (Kp T ws) m (i :: l) ((d, v) :: e) w R) : AnyE F n k (Kp T ws) (m + 1) l e w R :=
  AnyE.take i d v Kp.sup ho hS (fun w _ => .inl (hy w)) hn
theorem AnyE.no (i d : Nat) (ho : offOk F n l i d e = true) (hS : Kp T ws w) (hn : AnyE F n k (Kp T ws) m (i :: l) ((d, undef) :: e) w R) : AnyE F n k (Kp T ws) (m + 1) l e w R :=
  AnyE.off i d Kp.sup ho hS hn
theorem AnyE.loadBox (i d c : Nat) (T0 : TypeId) (b o : Nat) (v : Value) (is : List Nat) {t : TypeId} {cs : List Value} (h : Holds M0 w0 ws H) (hT : mines (Eng.pick H is) = T) (ho : takeOk F n l i d e = true) (hS : Kp T ws w) (hi : H[c]? = some (Eng.box b t cs)) (hc : is.elem c = false)
    (hl : loadOf F n i e = some (T0, ⟨b, o, none⟩)) (hv : loadV P T0 (cs.drop o) = some v) (hn : AnyE F n k (Kp T ws) m (i :: l) ((d, v) :: e) w R) : AnyE F n k (Kp T ws) (m + 1) l e w R :=
  AnyE.take i d v Kp.sup ho hS (fun w hk => .inl (run_load T0 hl (box_cells (h.atI is hT hk c hi hc) o) hv)) hn
theorem AnyE.loadCel (i d c : Nat) (T0 : TypeId) (b o q : Nat) (v : Value) (is : List Nat) {cs : List Value} (h : Holds M0 w0 ws H) (hT : mines (Eng.pick H is) = T) (ho : takeOk F n l i d e = true) (hS : Kp T ws w) (hi : H[c]? = some (cel b o cs)) (hc : is.elem c = false)
    (hl : loadOf F n i e = some (T0, ⟨b, o + q, none⟩)) (hv : loadV P T0 (cs.drop q) = some v) (hn : AnyE F n k (Kp T ws) m (i :: l) ((d, v) :: e) w R) : AnyE F n k (Kp T ws) (m + 1) l e w R :=
  AnyE.take i d v Kp.sup ho hS (fun w hk => .inl (run_load T0 hl (fun j u hu => by
    rw [List.getElem?_drop] at hu
    rw [Nat.add_assoc]
    exact (h.atI is hT hk c hi hc).2.2 _ u hu) hv)) hn
theorem AnyE.idxSl (i d c : Nat) (T0 : TypeId) (ix : Int) {α : Type} [Inhabited α] {dd : Rp α} {v : Value} {xs : List α} (h : Holds M0 w0 ws H) (ho : takeOk F n l i d e = true) (hS : Kp T ws w) (hi : H[c]? = some (sl dd v xs)) (hx : idxOf F n i e = some (T0, v, ix)) (hT0 : elemSz P T0 = some dd.sz) (hr : inR ix xs.length = true)
    (hn : ∀ b o cs, dd.K ws (Mset M0 H) (rdD xs ix) cs → Holds M0 w0 ws (H ++ [cel b o cs]) → AnyE F n k (Kp T ws) m (i :: l) ((d, .pointer (some ⟨b, o, none⟩)) :: e) w R) : AnyE F n k (Kp T ws) (m + 1) l e w R := by
  obtain ⟨b, o, cs, h1, h2, h3⟩ := h.idx c T0 ix hi hx hT0 hr
  exact AnyE.take i d _ Kp.sup ho hS (fun w _ => .inl (h3 w)) (hn b o cs h1 h2)
theorem AnyE.cutSl (i d c : Nat) (T0 : TypeId) (lo hi : Option Int) {α : Type} {dd : Rp α} {v : Value} {xs : List α} (h : Holds M0 w0 ws H) (ho : takeOk F n l i d e = true) (hS : Kp T ws w) (hi' : H[c]? = some (sl dd v xs)) (hx : cutOf F n i e = some (T0, v, lo, hi)) (hT0 : elemSz P T0 = some dd.sz)
    (hr : cutR (lo.getD 0) (hi.getD xs.length) xs.length = true)
    (hn : ∀ A cp, Holds M0 w0 ws (H ++ [sl dd (.slice A (cutL xs (lo.getD 0) (hi.getD xs.length)).length cp) (cutL xs (lo.getD 0) (hi.getD xs.length))]) →
      AnyE F n k (Kp T ws) m (i :: l) ((d, .slice A (cutL xs (lo.getD 0) (hi.getD xs.length)).length cp) :: e) w R) : AnyE F n k (Kp T ws) (m + 1) l e w R := by
  obtain ⟨A, cp, h2, h3⟩ := h.cut c T0 lo hi hi' hx hT0 hr
  exact AnyE.take i d _ Kp.sup ho hS (fun w _ => .inl (h3 w)) (hn A cp h2)
theorem AnyE.call (i d : Nat) (v : Value) (g : FuncId) (args : Array Value) (ho : takeOk F n l i d e = true) (hS : Kp T ws w) (hr : ∀ w, (execOp e.eval (opOf F.B n i)).run P w = .ok (.enter g args) w)
    (hy : ∀ w, Kp T ws w → Calls P g args w fun e w1 => e = .returned v ∧ Below w.heap.size w w1) (hn : AnyE F n k (Kp T ws) m (i :: l) ((d, v) :: e) w R) : AnyE F n k (Kp T ws) (m + 1) l e w R :=
  AnyE.take i d v Kp.sup ho hS (fun w hk => .inr ⟨g, args, hr w, hy w hk⟩) hn
end
#print axioms AnyE.call
end Go.Eng
