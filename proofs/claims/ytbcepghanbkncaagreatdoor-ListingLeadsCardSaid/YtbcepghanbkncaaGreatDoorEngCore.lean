/- The engine's core: a call run as a list of what is still to do, over the slots that are still wanted. -/
import Derived.WalkKit
import Derived.KernelRfl
import Derived.OrdersIn
import Derived.RangeFuncRecord
set_option linter.unusedVariables false
set_option linter.unusedSimpArgs false
namespace Go.Eng
open Go.RowKit

def base (f : FuncId) (ro : Option Nat) : Frame := { (default : Frame) with fn := f, kind := .normal, roundOf := ro }
def Fw (ro : Option Nat) : Fence := { fn := fun _ => True, depth := none, alive := false, round := ro }
theorem Fw.room (ro : Option Nat) (n : Nat) : (Fw ro).room n := fun _ h => by simp [Fw] at h
theorem callsFw {n : Nat} {P : Program} {f : FuncId} {args : Array Value} {w : World} {R : Ending → World → Prop} (ro : Option Nat) (h : Calls P f args w R) : CallsIn (Fw ro) n P f args w R :=
  (callsIn_wide (n := n)).2 h
def Arr (P : Program) (f : FuncId) (ro : Option Nat) (st : List Frame → Machine) (R : Ending → World → Prop) : Prop :=
  match ro with
  | none => ∀ cs, ∃ e w' fr, R e w' ∧ Comes P (st cs) (lone fr cs w') e ∧ fr.fn = f ∧ fr.leaving P w' e
  | some _ => ∀ c cs, ∃ v w', R (.returned v) w' ∧ Steps P (st (c :: cs)) (lone (c.finish v) cs w')
theorem Arr.steps {P : Program} {f : FuncId} {ro : Option Nat} {st st' : List Frame → Machine} {R : Ending → World → Prop} (h : ∀ cs, Steps P (st cs) (st' cs)) (n : Arr P f ro st' R) : Arr P f ro st R := by
  cases ro with
  | none => exact fun cs => let ⟨e, w2, fr, r, co, rest⟩ := n cs; ⟨e, w2, fr, r, .of_steps (h cs) co, rest⟩
  | some l => exact fun c cs => let ⟨v, w2, r, co⟩ := n c cs; ⟨v, w2, r, (h _).trans co⟩
def Runs (P : Program) (f : FuncId) (ro : Option Nat) (todo : List Item) (a : Act) (w : World) (R : Ending → World → Prop) : Prop :=
  Arr P f ro (fun cs => lone ((base f ro).atR a todo) cs w) R

section
variable {P : Program} {f : FuncId} {ro : Option Nat} {fn : Func} {c : Code} {k todo todo' : List Item} {a a' : Act} {w w' : World} {R : Ending → World → Prop} {v : Value} {args : Array Value}

theorem Runs.steps (h : ∀ cs, Steps P (lone ((base f ro).atR a todo) cs w) (lone ((base f ro).atR a' todo') cs w')) (n : Runs P f ro todo' a' w' R) : Runs P f ro todo a w R :=
  Arr.steps h n
theorem Runs.step (h : ∀ cs, step P (lone ((base f ro).atR a todo) cs w) = .next (lone ((base f ro).atR a' todo') cs w')) (n : Runs P f ro todo' a' w' R) : Runs P f ro todo a w R :=
  Runs.steps (fun cs => .one (h cs)) n

theorem calls_of_runs (hf : P.funcs[f]? = some fn) (hb : fn.body = some c)
    (h : Runs P f none [.code c] { tmps := args ++ Array.replicate (fn.ntmps - args.size) undef, defers := [] } w R) : Calls P f args w R := by
  intro cs
  obtain ⟨e, w', fr, r, co, h1, h2⟩ := h cs
  have henter : Frame.enter P f args .normal =
      (base f none).atR { tmps := args ++ Array.replicate (fn.ntmps - args.size) undef, defers := [] } [.code c] := by
    simp [Frame.enter, Frame.atR, hf, hb, base]
  exact ⟨e, w', fr, r, henter ▸ co, h1, h2⟩

def defs (ds : List Nat) : List Deferred := ds.map fun D => { target := .collected D, args := #[] }
def Rets (P : Program) (f : FuncId) (todo : List Item) (a : Act) (w : World) (R : Ending → World → Prop) : Prop :=
  Arr P f none (fun cs => lone { (base f none).atR a todo with mode := .returning } cs w) R
theorem rets_nil (hf : P.funcs[f]? = some fn) (hr : (results fn a.tmps).run P w = .ok v w) (hd : a.defers = []) (hR : R (.returned v) w) : Rets P f todo a w R :=
  fun cs => ⟨.returned v, w, _, hR, Steps.refl _ _, rfl, rfl, hd, rfl, fn, hf, hr⟩
theorem runs_ret (h : Rets P f (.code .ret :: k) a w R) : Runs P f none (.code .ret :: k) a w R :=
  Arr.steps (fun _ => Steps.one (stepR_ret rfl)) h
theorem runs_end (h : Rets P f [] a w R) : Runs P f none [] a w R :=
  Arr.steps (fun _ => Steps.one (stepR_end rfl)) h

def Qk (P : Program) (f : FuncId) (ro : Option Nat) (k : List Item) (R : Ending → World → Prop) : Exit → Act → World → Prop
  | .normal, a, w => Runs P f ro k a w R
  | _, _, _ => False
theorem runs_of_wp (h : c.wpIn (Fw ro) 0 P (Qk P f ro k R) a w) : Runs P f ro (.code c :: k) a w R := by
  cases ro with
  | none =>
    intro cs
    obtain ⟨e, a', w', hq, harr⟩ := h (base f none) k cs rfl trivial (Fw.room _ _)
    cases e <;> simp only [Qk] at hq
    obtain ⟨e, w2, fr, r, co, rest⟩ := hq cs
    exact ⟨e, w2, fr, r, .of_steps (StepsIn.steps harr) co, rest⟩
  | some l =>
    intro c0 cs
    obtain ⟨e, a', w', hq, harr⟩ := h (base f (some l)) k (c0 :: cs) rfl trivial (Fw.room _ _)
    cases e <;> simp only [Qk] at hq
    obtain ⟨v, w2, r, co⟩ := hq c0 cs
    exact ⟨v, w2, r, (StepsIn.steps harr).trans co⟩
end

section
variable {P : Program} {ops : Array Oper} {ro : Option Nat} {Q : Exit → Act → World → Prop}
def wpL (P : Program) (ro : Option Nat) (ops : Array Oper) (Q : Exit → Act → World → Prop) : List Oper → Act → World → Prop
  | [], a, w => Q .normal a w
  | o :: l, a, w => if Region.wanted o (yielded ops a.tmps) then o.wpIn (Fw ro) 0 P a w (wpL P ro ops Q l) Q else wpL P ro ops Q l (a.put o.dst undef) w
theorem wpL_ops : ∀ (m i : Nat) (a : Act) (w : World), ops.size = i + m → wpL P ro ops Q (ops.toList.drop i) a w → wpOpsIn (Fw ro) 0 P ops Q (List.range' i m) a w
  | 0, i, a, w, hs, h => by
    rw [List.drop_eq_nil_of_le (by simp; omega)] at h
    simpa [wpOpsIn, wpL] using h
  | m + 1, i, a, w, hs, h => by
    have hlt : i < ops.size := by omega
    have hi : ops[i]? = some ops[i] := by simp [hlt]
    rw [List.drop_eq_getElem_cons (by simpa using hlt)] at h
    simp only [List.range'_succ, wpOpsIn_cons]
    unfold wpOpIn
    simp only [hi]
    unfold wpL at h
    simp only [Array.getElem_toList] at h
    split
    · rename_i hw
      simp only [hw, if_true] at h
      exact Oper.wpIn_mono (fun a w h => wpL_ops m (i + 1) a w (by omega) h) h
    · rename_i hw
      simp only [hw, Bool.false_eq_true, if_false] at h
      exact ⟨fun _ _ => trivial, wpL_ops m (i + 1) _ w (by omega) h⟩
theorem wpL_region {id : Nat} {a : Act} {w : World} (h : wpL P ro ops Q ops.toList a w) : (Code.region id ops false).wpIn (Fw ro) 0 P Q a w :=
  wpIn_region (by rw [List.range_eq_range']; exact wpL_ops ops.size 0 a w (by omega) (by simpa using h))
theorem wp_value {o : Oper} {a : Act} {w w' : World} {v : Value} {K : Act → World → Prop} (hd : ∀ c, o.op ≠ .defer c) (hr : (execOp a.eval o).run P w = .ok (.value v) w') (h : K (a.put o.dst v) w') : o.wpIn (Fw ro) 0 P a w K Q := by
  refine ⟨fun _ _ => trivial, ?_⟩
  rw [Oper.semAt_eq _ _ _ hd, hr, Oper.uponIn_value]
  exact h
theorem wp_skip {o : Oper} {a : Act} {w w' : World} {K : Act → World → Prop} (hd : ∀ c, o.op ≠ .defer c) (hr : (execOp a.eval o).run P w = .ok .skip w') (h : K (a.put o.dst undef) w') : o.wpIn (Fw ro) 0 P a w K Q := by
  refine ⟨fun _ _ => trivial, ?_⟩
  rw [Oper.semAt_eq _ _ _ hd, hr, Oper.uponIn_skip]
  exact h
theorem wp_enter {o : Oper} {a : Act} {w w' : World} {g : FuncId} {args : Array Value} {K : Act → World → Prop} (hd : ∀ c, o.op ≠ .defer c) (hr : (execOp a.eval o).run P w = .ok (.enter g args) w')
    (h : Calls P g args w' fun e1 w1 => ∃ v, e1 = .returned v ∧ K (a.put o.dst v) w1) : o.wpIn (Fw ro) 0 P a w K Q := by
  refine ⟨fun _ _ => trivial, ?_⟩
  rw [Oper.semAt_eq _ _ _ hd, hr, Oper.uponIn_enter]
  exact ⟨fun h => by simp [Fw] at h, callsFw ro (h.mono fun e1 w1 ⟨v, he, hk⟩ => by subst he; exact hk)⟩
theorem wp_round {o : Oper} {a : Act} {w w' : World} {l : Nat} {f : FuncId} {tmps : Array Value} {x y : Code} {K : Act → World → Prop} (hd : ∀ c, o.op ≠ .defer c) (hr : (execOp a.eval o).run P w = .ok (.round l f tmps x y) w')
    (h : Arr P f (some l) (fun cs => lone (Frame.round l f tmps x y .normal) cs w') fun e1 w1 => ∃ v, e1 = .returned v ∧ K (a.put o.dst v) w1) : o.wpIn (Fw ro) 0 P a w K Q := by
  refine ⟨fun _ _ => trivial, ?_⟩
  rw [Oper.semAt_eq _ _ _ hd, hr, Oper.uponIn_round]
  refine ⟨fun h => by simp [Fw] at h, trivial, fun c cs _ => ?_⟩
  obtain ⟨v, w1, ⟨v', he, hk⟩, hs⟩ := h c cs
  have := Ending.returned.inj he
  subst this
  exact ⟨.returned v, w1, hk, (comesIn_wide (e := .returned v)).2 hs⟩
end

abbrev Env := List (Nat × Value)
def Env.get : Env → Nat → Value
  | [], _ => undef
  | (i, v) :: r, t => cond (Nat.beq i t) v (Env.get r t)
def Env.has : Env → Nat → Bool
  | [], _ => false
  | (i, _) :: r, t => cond (Nat.beq i t) true (Env.has r t)
def Env.eval (e : Env) : Operand → Value
  | .tmp t => e.get t
  | .const v => v
  | .global g => .pointer (some ⟨g, 0, none⟩)
  | .func f => .func (.func f) #[] #[]
def Env.can (e : Env) : Operand → Bool
  | .tmp t => e.has t
  | _ => true

structure Agree (N : Nat) (ds : List Nat) (e : Env) (a : Act) : Prop where
  size : a.tmps.size = N
  defers : a.defers = defs ds
  slots : ∀ t, e.has t = true → a.tmps.getD t undef = e.get t

theorem Agree.put {N d : Nat} {ds : List Nat} {e : Env} {a : Act} (h : Agree N ds e a) (hd : d < N) (v : Value) : Agree N ds ((d, v) :: e) (a.put (some d) v) := by
  refine ⟨by simp [Act.put, h.size], h.defers, fun t ht => ?_⟩
  by_cases hdt : d = t
  · subst hdt
    have : d < a.tmps.size := by rw [h.size]; exact hd
    simp [Act.put, Env.get, this]
  · have hb : Nat.beq d t = false := by
      cases hb : Nat.beq d t with
      | false => rfl
      | true => exact absurd (Nat.eq_of_beq_eq_true hb) hdt
    simp only [Env.has, Env.get, hb, cond_false] at ht ⊢
    rw [← h.slots t ht]
    simp [Act.put, Array.getElem?_setIfInBounds_ne hdt]
theorem Agree.put_none {N : Nat} {ds : List Nat} {e : Env} {a : Act} (h : Agree N ds e a) (v : Value) : Agree N ds e (a.put none v) := h
theorem Agree.eval {N : Nat} {ds : List Nat} {e : Env} {a : Act} (h : Agree N ds e a) (x : Operand) (hx : e.can x = true) : a.eval x = e.eval x := by
  cases x with
  | tmp t => exact h.slots t hx
  | _ => rfl
theorem Agree.mono {N : Nat} {ds : List Nat} {e e' : Env} {a : Act} (h : Agree N ds e a) (hs : ∀ t, e'.has t = true → e.has t = true ∧ e'.get t = e.get t) : Agree N ds e' a :=
  ⟨h.size, h.defers, fun t ht => by rw [(hs t ht).2]; exact h.slots t (hs t ht).1⟩

def Env.only (e : Env) : List Nat → Env
  | [] => []
  | t :: r => (t, e.get t) :: Env.only e r
theorem Env.only_has (e : Env) : ∀ (l : List Nat), (∀ t ∈ l, e.has t = true) → ∀ t, (e.only l).has t = true → e.has t = true ∧ (e.only l).get t = e.get t
  | [], _, t, h => by simp [Env.only, Env.has] at h
  | u :: r, hl, t, h => by
    simp only [Env.only, Env.has, Env.get] at h ⊢
    cases hb : Nat.beq u t with
    | true =>
      have := Nat.eq_of_beq_eq_true hb
      subst this
      exact ⟨hl _ (List.mem_cons_self), by simp⟩
    | false =>
      simp only [hb, cond_false] at h ⊢
      exact Env.only_has e r (fun t ht => hl t (List.mem_cons_of_mem _ ht)) t h

def canAll (e : Env) (o : Oper) : Bool := o.op.operands.all (fun x => e.can x) && (match o.op with | .select .. => false | .defer .. => false | _ => true)
theorem canAll_defer {e : Env} {o : Oper} (hc : canAll e o = true) : ∀ c, o.op ≠ .defer c := by
  intro c hs
  simp only [canAll, Bool.and_eq_true] at hc
  rw [hs] at hc; exact absurd hc.2 (by simp)
theorem exec_agree {N : Nat} {ds : List Nat} {e : Env} {a : Act} {o : Oper} (h : Agree N ds e a) (hc : canAll e o = true) : execOp a.eval o = execOp e.eval o := by
  simp only [canAll, Bool.and_eq_true] at hc
  refine execOp_congr o (fun cs b hs => ?_) (fun x hx => h.eval x ?_)
  · rw [hs] at hc; exact absurd hc.2 (by simp)
  · exact Array.all_eq_true'.1 hc.1 x hx
def wantedE (ops : Array Oper) (e : Env) (o : Oper) : Option Bool :=
  match o.guard with
  | none => some true
  | some (j, b) => match (ops[j]?).bind (·.dst) with
    | some t => cond (e.has t) (match e.get t with | .bool b' => some (b' == b) | .tuple _ => some false | _ => none) none
    | none => none
theorem wanted_agree {N : Nat} {ds : List Nat} {e : Env} {a : Act} {o : Oper} {ops : Array Oper} {b : Bool} (h : Agree N ds e a) (hw : wantedE ops e o = some b) : Region.wanted o (yielded ops a.tmps) = b := by
  unfold wantedE at hw
  unfold Region.wanted
  cases hg : o.guard with
  | none => rw [hg] at hw; simpa using hw
  | some jb =>
    obtain ⟨j, b0⟩ := jb
    simp only [hg] at hw ⊢
    unfold yielded
    cases ht : (ops[j]?).bind (·.dst) with
    | none => simp [ht] at hw
    | some t =>
      simp only [ht] at hw
      cases hh : e.has t with
      | false => simp [hh] at hw
      | true =>
        simp only [hh, cond_true] at hw
        have hs := h.slots t hh
        simp only [Option.bind_some]
        have hget : a.tmps[t]? = some (e.get t) ∨ (a.tmps[t]? = none ∧ e.get t = undef) := by
          simp only [Array.getD_eq_getD_getElem?] at hs
          cases hq : a.tmps[t]? with
          | none => right; rw [hq] at hs; exact ⟨rfl, hs.symm⟩
          | some u => left; rw [hq] at hs; simp at hs; rw [hs]
        rcases hget with hget | ⟨hget, hu⟩
        · rw [hget]
          cases hv : e.get t <;> simp [hv] at hw ⊢ <;> exact hw
        · rw [hget]
          rw [hu] at hw
          simp [undef] at hw ⊢
          exact hw

def stepOp (P : Program) (N : Nat) (ops : Array Oper) (o : Oper) (e : Env) (w : World) : Option (Env × World) :=
  match wantedE ops e o with
  | some true => cond (canAll e o)
    (match (execOp e.eval o).run P w with
      | .ok (.value v) w' => (match o.dst with | some d => cond (Nat.blt d N) (some ((d, v) :: e, w')) none | none => some (e, w'))
      | .ok .skip w' => (match o.dst with | some d => cond (Nat.blt d N) (some ((d, undef) :: e, w')) none | none => some (e, w'))
      | _ => none) none
  | some false => (match o.dst with | some d => cond (Nat.blt d N) (some ((d, undef) :: e, w)) none | none => some (e, w))
  | none => none
def evalSeg (P : Program) (N : Nat) (ops : Array Oper) : List Oper → Env → World → Option (Env × World)
  | [], e, w => some (e, w)
  | o :: l, e, w => match stepOp P N ops o e w with
    | some s => evalSeg P N ops l s.1 s.2
    | none => none
def evalKeep (P : Program) (N : Nat) (ops : Array Oper) (l : List Oper) (e : Env) (w : World) (live : List Nat) : Option (Env × World) :=
  match evalSeg P N ops l e w with
  | some s => cond (live.all s.1.has) (some (s.1.only live, s.2)) none
  | none => none

section
variable {P : Program} {f : FuncId} {N : Nat} {ds : List Nat} {ro : Option Nat} {ops : Array Oper} {k : List Item} {e e' : Env} {w w' : World} {R : Ending → World → Prop} {o : Oper} {rest : List Oper}

def RegE (P : Program) (f : FuncId) (N : Nat) (ds : List Nat) (ro : Option Nat) (ops : Array Oper) (k : List Item) (l : List Oper) (e : Env) (w : World) (R : Ending → World → Prop) : Prop :=
  ∀ a, Agree N ds e a → wpL P ro ops (Qk P f ro k R) l a w
def RunsE (P : Program) (f : FuncId) (N : Nat) (ds : List Nat) (ro : Option Nat) (todo : List Item) (e : Env) (w : World) (R : Ending → World → Prop) : Prop :=
  ∀ a, Agree N ds e a → Runs P f ro todo a w R

theorem RegE.nil (h : RunsE P f N ds ro k e w R) : RegE P f N ds ro ops k [] e w R := fun a ha => h a ha
theorem RegE.mono (h : RegE P f N ds ro ops k rest e' w R) (hs : ∀ a, Agree N ds e a → Agree N ds e' a) : RegE P f N ds ro ops k rest e w R := fun a ha => h a (hs a ha)

theorem RegE.off {b : Bool} (hw : wantedE ops e o = some false) (h : ∀ a, Agree N ds e a → Agree N ds e' (a.put o.dst undef)) (n : RegE P f N ds ro ops k rest e' w R) : RegE P f N ds ro ops k (o :: rest) e w R := by
  intro a ha
  unfold wpL
  rw [if_neg (by rw [wanted_agree ha hw]; exact Bool.false_ne_true)]
  exact n _ (h a ha)
theorem RegE.run (hw : wantedE ops e o = some true) (hc : canAll e o = true) {v : Value} {d : Nat} (hd : o.dst = some d) (hdN : Nat.blt d N = true)
    (hrun : (execOp e.eval o).run P w = .ok (.value v) w') (n : RegE P f N ds ro ops k rest ((d, v) :: e) w' R) : RegE P f N ds ro ops k (o :: rest) e w R := by
  intro a ha
  unfold wpL
  rw [if_pos (wanted_agree ha hw)]
  refine wp_value (canAll_defer hc) ((congrArg (fun s => s.run P w) (exec_agree ha hc)).trans hrun) ?_
  rw [hd]
  exact n _ (ha.put (by simpa using hdN) v)
theorem RegE.run_skip (hw : wantedE ops e o = some true) (hc : canAll e o = true) (hd : o.dst = none)
    (hrun : (execOp e.eval o).run P w = .ok .skip w') (n : RegE P f N ds ro ops k rest e w' R) : RegE P f N ds ro ops k (o :: rest) e w R := by
  intro a ha
  unfold wpL
  rw [if_pos (wanted_agree ha hw)]
  refine wp_skip (canAll_defer hc) ((congrArg (fun s => s.run P w) (exec_agree ha hc)).trans hrun) ?_
  rw [hd]
  exact n _ ha
theorem RegE.call (hw : wantedE ops e o = some true) (hc : canAll e o = true) {d : Nat} (hd : o.dst = some d) (hdN : Nat.blt d N = true) {g : FuncId} {args : Array Value}
    (hrun : (execOp e.eval o).run P w = .ok (.enter g args) w)
    (h : Calls P g args w fun e1 w1 => ∃ v, e1 = .returned v ∧ RegE P f N ds ro ops k rest ((d, v) :: e) w1 R) : RegE P f N ds ro ops k (o :: rest) e w R := by
  intro a ha
  unfold wpL
  rw [if_pos (wanted_agree ha hw)]
  refine wp_enter (canAll_defer hc) ((congrArg (fun s => s.run P w) (exec_agree ha hc)).trans hrun) ?_
  refine h.mono fun e1 w1 h1 => ?_
  obtain ⟨v, rfl, hk⟩ := h1
  refine ⟨v, rfl, ?_⟩
  rw [hd]
  exact hk _ (ha.put (by simpa using hdN) v)
theorem RegE.step1 {s : Env × World} (h : stepOp P N ops o e w = some s) (n : RegE P f N ds ro ops k rest s.1 s.2 R) : RegE P f N ds ro ops k (o :: rest) e w R := by
  unfold stepOp at h
  cases hw : wantedE ops e o with
  | none => simp [hw] at h
  | some b =>
    cases b with
    | true =>
      simp only [hw] at h
      cases hc : canAll e o with
      | false => simp [hc] at h
      | true =>
        simp only [hc, cond_true] at h
        cases hr : (execOp e.eval o).run P w with
        | halt x w1 => simp [hr] at h
        | ok x w1 =>
          simp only [hr] at h
          cases x with
          | value v =>
            simp only at h
            cases hd : o.dst with
            | none =>
              simp only [hd, Option.some.injEq] at h
              subst h
              intro a ha
              unfold wpL
              rw [if_pos (wanted_agree ha hw)]
              refine wp_value (canAll_defer hc) ((congrArg (fun s => s.run P w) (exec_agree ha hc)).trans hr) ?_
              rw [hd]
              exact n _ ha
            | some d =>
              simp only [hd] at h
              cases hb : Nat.blt d N with
              | false => simp [hb] at h
              | true =>
                simp only [hb, cond_true, Option.some.injEq] at h
                subst h
                exact RegE.run hw hc hd hb hr n
          | skip =>
            simp only at h
            cases hd : o.dst with
            | none =>
              simp only [hd, Option.some.injEq] at h
              subst h
              exact RegE.run_skip hw hc hd hr n
            | some d =>
              simp only [hd] at h
              cases hb : Nat.blt d N with
              | false => simp [hb] at h
              | true =>
                simp only [hb, cond_true, Option.some.injEq] at h
                subst h
                intro a ha
                unfold wpL
                rw [if_pos (wanted_agree ha hw)]
                refine wp_skip (canAll_defer hc) ((congrArg (fun s => s.run P w) (exec_agree ha hc)).trans hr) ?_
                rw [hd]
                exact n _ (ha.put (by simpa using hb) undef)
          | _ => simp at h
    | false =>
      simp only [hw] at h
      cases hd : o.dst with
      | none =>
        simp only [hd, Option.some.injEq] at h
        subst h
        exact RegE.off (b := false) hw (fun a ha => by rw [hd]; exact ha) n
      | some d =>
        simp only [hd] at h
        cases hb : Nat.blt d N with
        | false => simp [hb] at h
        | true =>
          simp only [hb, cond_true, Option.some.injEq] at h
          subst h
          exact RegE.off (b := false) hw (fun a ha => by rw [hd]; exact ha.put (by simpa using hb) undef) n

theorem RegE.seg : ∀ (l : List Oper) {e : Env} {w : World} {s : Env × World}, evalSeg P N ops l e w = some s → RegE P f N ds ro ops k rest s.1 s.2 R → RegE P f N ds ro ops k (l ++ rest) e w R
  | [], e, w, s, h, n => by simp only [evalSeg, Option.some.injEq] at h; subst h; exact n
  | o :: l, e, w, s, h, n => by
    simp only [evalSeg] at h
    cases hs : stepOp P N ops o e w with
    | none => simp [hs] at h
    | some s1 =>
      simp only [hs] at h
      exact RegE.step1 hs (RegE.seg l h n)
theorem RegE.pure {l : List Oper} (n : Nat) (live : List Nat) (e' : Env) (h : evalKeep P N ops (l.take n) e w live = some (e', w)) (hn : RegE P f N ds ro ops k (l.drop n) e' w R) : RegE P f N ds ro ops k l e w R := by
  unfold evalKeep at h
  cases hs : evalSeg P N ops (l.take n) e w with
  | none => simp [hs] at h
  | some s =>
    simp only [hs] at h
    cases hl : live.all s.1.has with
    | false => simp [hl] at h
    | true =>
      simp only [hl, cond_true, Option.some.injEq, Prod.mk.injEq] at h
      obtain ⟨rfl, h2⟩ := h
      have := RegE.seg (rest := l.drop n) (k := k) (f := f) (R := R) (l.take n) hs (by
        rw [h2]
        exact hn.mono fun a ha => ha.mono (Env.only_has _ _ (fun t ht => List.all_eq_true.1 hl t ht)))
      rwa [List.take_append_drop] at this
end
def pre : Code → List Code
  | .seq a b => .seq a b :: (pre a ++ pre b)
  | .cond c a b => .cond c a b :: (pre a ++ pre b)
  | .block i b => .block i b :: pre b
  | .loop b => .loop b :: pre b
  | .scope b => .scope b :: pre b
  | .rangeFunc g ps a b => .rangeFunc g ps a b :: (pre a ++ pre b)
  | c => [c]
theorem pre_head (c : Code) : (pre c)[0]? = some c := by cases c <;> rfl
theorem get_app_left {α : Type} {l m : List α} {i : Nat} {x : α} (h : l[i]? = some x) : (l ++ m)[i]? = some x := by
  have hlt : i < l.length := (List.getElem?_eq_some_iff.1 h).1
  rw [List.getElem?_append_left hlt]; exact h
theorem get_app_right {α : Type} (l m : List α) (i : Nat) : (l ++ m)[l.length + i]? = m[i]? := by
  rw [List.getElem?_append_right (by omega)]; congr 1; omega
theorem pre_in : ∀ (B : Code) (n : Nat) (c : Code) (j : Nat) (d : Code), (pre B)[n]? = some c → (pre c)[j]? = some d → (pre B)[n + j]? = some d := by
  intro B
  have two : ∀ (x : Code) (a b : Code), pre x = x :: (pre a ++ pre b) →
      (∀ (n : Nat) (c : Code) (j : Nat) (d : Code), (pre a)[n]? = some c → (pre c)[j]? = some d → (pre a)[n + j]? = some d) →
      (∀ (n : Nat) (c : Code) (j : Nat) (d : Code), (pre b)[n]? = some c → (pre c)[j]? = some d → (pre b)[n + j]? = some d) →
      ∀ (n : Nat) (c : Code) (j : Nat) (d : Code), (pre x)[n]? = some c → (pre c)[j]? = some d → (pre x)[n + j]? = some d := by
    intro x a b hx iha ihb n c j d hn hj
    cases n with
    | zero =>
      rw [pre_head] at hn
      cases hn
      simpa using hj
    | succ m =>
      rw [hx] at hn ⊢
      simp only [List.getElem?_cons_succ, show m + 1 + j = (m + j) + 1 by omega] at hn ⊢
      rcases Nat.lt_or_ge m (pre a).length with hm | hm
      · rw [List.getElem?_append_left hm] at hn
        exact get_app_left (iha m c j d hn hj)
      · rw [List.getElem?_append_right hm] at hn
        have := ihb _ c j d hn hj
        rw [List.getElem?_append_right (by omega)]
        rwa [show m + j - (pre a).length = m - (pre a).length + j by omega]
  have one : ∀ (x : Code) (b : Code), pre x = x :: pre b →
      (∀ (n : Nat) (c : Code) (j : Nat) (d : Code), (pre b)[n]? = some c → (pre c)[j]? = some d → (pre b)[n + j]? = some d) →
      ∀ (n : Nat) (c : Code) (j : Nat) (d : Code), (pre x)[n]? = some c → (pre c)[j]? = some d → (pre x)[n + j]? = some d := by
    intro x b hx ihb n c j d hn hj
    cases n with
    | zero => rw [pre_head] at hn; cases hn; simpa using hj
    | succ m =>
      rw [hx] at hn ⊢
      simp only [List.getElem?_cons_succ, show m + 1 + j = (m + j) + 1 by omega] at hn ⊢
      exact ihb m c j d hn hj
  have none_ : ∀ (x : Code), pre x = [x] → ∀ (n : Nat) (c : Code) (j : Nat) (d : Code), (pre x)[n]? = some c → (pre c)[j]? = some d → (pre x)[n + j]? = some d := by
    intro x hx n c j d hn hj
    cases n with
    | zero => rw [pre_head] at hn; cases hn; simpa using hj
    | succ m => rw [hx] at hn; simp at hn
  induction B with
  | seq a b iha ihb => exact two _ a b rfl iha ihb
  | cond c a b iha ihb => exact two _ a b rfl iha ihb
  | rangeFunc g ps a b iha ihb => exact two _ a b rfl iha ihb
  | block i b ih => exact one _ b rfl ih
  | loop b ih => exact one _ b rfl ih
  | scope b ih => exact one _ b rfl ih
  | _ => exact none_ _ rfl
def nth (B : Code) (n : Nat) : Code := (pre B)[n]?.getD .skip
theorem nth_of {B : Code} {n : Nat} {c : Code} (h : (pre B)[n]? = some c) : nth B n = c := by simp [nth, h]
theorem nth_next {B : Code} {n : Nat} {c d : Code} (j : Nat) (h : (pre B)[n]? = some c) (hd : (pre c)[j]? = some d) : nth B (n + j) = d := nth_of (pre_in B n c j d h hd)

inductive It where
  | c (n : Nat)
  | blk (id : Nat)
  | lp (n : Nat)
  | bg
  | erf (l : Nat)
  | sc (n : Nat)
def It.item (B : Code) : It → Item
  | .c n => .code (nth B n)
  | .blk id => .inBlock id
  | .lp n => .inLoop (nth B n)
  | .bg => .beginRound
  | .erf l => .endRangeFunc l
  | .sc n => .inScope (nth B n)
def exitIt (id : Nat) : List It → Option (List It)
  | .blk j :: k => cond (Nat.beq j id) (some k) (exitIt id k)
  | .c _ :: k => exitIt id k
  | .lp _ :: k => exitIt id k
  | .sc _ :: k => exitIt id k
  | _ => none
theorem exitTo_of {B : Code} {id : Nat} : ∀ {l k : List It}, exitIt id l = some k → exitTo id (l.map (It.item B)) = some (k.map (It.item B))
  | [], k, h => by simp [exitIt] at h
  | .c n :: l, k, h => by simp only [List.map_cons, It.item, exitTo]; exact exitTo_of (by simpa [exitIt] using h)
  | .lp n :: l, k, h => by simp only [List.map_cons, It.item, exitTo]; exact exitTo_of (by simpa [exitIt] using h)
  | .sc n :: l, k, h => by simp only [List.map_cons, It.item, exitTo]; exact exitTo_of (by simpa [exitIt] using h)
  | .bg :: l, k, h => by simp [exitIt] at h
  | .erf _ :: l, k, h => by simp [exitIt] at h
  | .blk j :: l, k, h => by
    simp only [List.map_cons, It.item, exitTo, exitIt] at h ⊢
    cases hb : Nat.beq j id with
    | true =>
      have := Nat.eq_of_beq_eq_true hb
      subst this
      simp only [hb, cond_true, Option.some.injEq] at h
      subst h
      simp
    | false =>
      have hne : (j == id) = false := by
        cases h2 : (j == id) with
        | false => rfl
        | true => have := eq_of_beq h2; subst this; simp at hb
      simp only [hb, cond_false] at h
      simp only [hne]
      exact exitTo_of h
def stepIt (B : Code) : List It → Option (List It)
  | .c n :: k => match (pre B)[n]? with
    | some (.seq a _) => some (.c (n + 1) :: .c (n + (1 + (pre a).length)) :: k)
    | some (.block id _) => some (.c (n + 1) :: .blk id :: k)
    | some (.loop _) => some (.c (n + 1) :: .lp (n + 1) :: k)
    | some (.scope _) => some (.c (n + 1) :: .sc (n + 1) :: k)
    | some .skip => some k
    | some (.label _) => some k
    | some (.exit id) => exitIt id k
    | _ => none
  | .lp n :: k => some (.c n :: .lp n :: k)
  | .blk _ :: k => some k
  | .sc _ :: k => some k
  | _ => none
theorem stepR_scope {P : Program} {b : Frame} {a : Act} {c : Code} {k : List Item} {cs : List Frame} {w : World} : step P (lone (b.atR a (.code (.scope c) :: k)) cs w) = .next (lone (b.atR a (.code c :: .inScope c :: k)) cs w) :=
  step_lone_go (by simp [stepG, stepG.exec, Frame.atR])
theorem stepR_inScope {P : Program} {b : Frame} {a : Act} {c : Code} {k : List Item} {cs : List Frame} {w : World} : step P (lone (b.atR a (.inScope c :: k)) cs w) = .next (lone (b.atR a k) cs w) :=
  step_lone_go (by simp [stepG, stepG.exec, Frame.atR])
theorem step_it {P : Program} {B : Code} {b : Frame} {a : Act} {cs : List Frame} {w : World} {l k : List It} (h : stepIt B l = some k) :
    step P (lone (b.atR a (l.map (It.item B))) cs w) = .next (lone (b.atR a (k.map (It.item B))) cs w) := by
  cases l with
  | nil => simp [stepIt] at h
  | cons x l =>
    cases x with
    | bg => simp [stepIt] at h
    | erf l => simp [stepIt] at h
    | lp n => simp only [stepIt, Option.some.injEq] at h; subst h; exact stepR_inLoop
    | blk id => simp only [stepIt, Option.some.injEq] at h; subst h; exact stepR_inBlock
    | sc n => simp only [stepIt, Option.some.injEq] at h; subst h; exact stepR_inScope
    | c n =>
      simp only [stepIt] at h
      cases hn : (pre B)[n]? with
      | none => simp [hn] at h
      | some c =>
        have hc := nth_of hn
        cases c with
        | seq x y =>
          simp only [hn, Option.some.injEq] at h
          subst h
          have h1 : nth B (n + 1) = x := nth_next 1 hn (by simp only [pre, List.getElem?_cons_succ]; exact get_app_left (pre_head x))
          have h2 : nth B (n + (1 + (pre x).length)) = y := nth_next _ hn (by
            simp only [pre, show 1 + (pre x).length = (pre x).length + 1 by omega, List.getElem?_cons_succ]
            have := get_app_right (pre x) (pre y) 0
            rw [Nat.add_zero] at this
            rw [this]; exact pre_head y)
          simp only [List.map_cons, It.item, hc, h1, h2]
          exact stepR_seq
        | block id x =>
          simp only [hn, Option.some.injEq] at h
          subst h
          have h1 : nth B (n + 1) = x := nth_next 1 hn (by simp only [pre, List.getElem?_cons_succ]; exact pre_head x)
          simp only [List.map_cons, It.item, hc, h1]
          exact stepR_block
        | loop x =>
          simp only [hn, Option.some.injEq] at h
          subst h
          have h1 : nth B (n + 1) = x := nth_next 1 hn (by simp only [pre, List.getElem?_cons_succ]; exact pre_head x)
          simp only [List.map_cons, It.item, hc, h1]
          exact stepR_loop
        | scope x =>
          simp only [hn, Option.some.injEq] at h
          subst h
          have h1 : nth B (n + 1) = x := nth_next 1 hn (by simp only [pre, List.getElem?_cons_succ]; exact pre_head x)
          simp only [List.map_cons, It.item, hc, h1]
          exact stepR_scope
        | skip =>
          simp only [hn, Option.some.injEq] at h
          subst h
          simp only [List.map_cons, It.item, hc]
          exact stepR_skip
        | label i =>
          simp only [hn, Option.some.injEq] at h
          subst h
          simp only [List.map_cons, It.item, hc]
          exact stepR_label
        | exit id =>
          simp only [hn] at h
          simp only [List.map_cons, It.item, hc]
          exact stepR_exit (exitTo_of h)
        | _ => simp [hn] at h
def goIt (B : Code) : Nat → List It → Option (List It)
  | 0, l => some l
  | n + 1, l => match stepIt B l with
    | some k => goIt B n k
    | none => none
theorem steps_it {P : Program} {B : Code} {b : Frame} {a : Act} {cs : List Frame} {w : World} : ∀ (n : Nat) {l k : List It}, goIt B n l = some k →
    Steps P (lone (b.atR a (l.map (It.item B))) cs w) (lone (b.atR a (k.map (It.item B))) cs w)
  | 0, l, k, h => by simp only [goIt, Option.some.injEq] at h; subst h; exact .refl _ _
  | n + 1, l, k, h => by
    simp only [goIt] at h
    cases hs : stepIt B l with
    | none => simp [hs] at h
    | some m => simp only [hs] at h; exact .head (step_it hs) (steps_it n h)

structure Fun (P : Program) where
  f : FuncId
  fn : Func
  B : Code
  N : Nat
  hf : P.funcs[f]? = some fn
  hb : fn.body = some B
  hN : fn.ntmps = N
  ds : List Nat
  ro : Option Nat
def Fun.rd {P : Program} (F : Fun P) (l : Nat) : Fun P := { F with ds := [], ro := some l }
def Fun.df {P : Program} (F : Fun P) (D : Nat) : Fun P := { F with ds := D :: F.ds }

section
variable {P : Program} {F : Fun P} {k todo todo' : List It} {e e' : Env} {w w' : World} {R : Ending → World → Prop} {n i : Nat}

def RunsI (F : Fun P) (todo : List It) (e : Env) (w : World) (R : Ending → World → Prop) : Prop := RunsE P F.f F.N F.ds F.ro (todo.map (It.item F.B)) e w R

theorem RunsI.go (m : Nat) (todo' : List It) (h : goIt F.B m todo = some todo') (hn : RunsI F todo' e w R) : RunsI F todo e w R :=
  fun a ha => Runs.steps (fun _ => steps_it m h) (hn a ha)
theorem RunsI.env (h : ∀ a, Agree F.N F.ds e a → Agree F.N F.ds e' a) (hn : RunsI F todo e' w R) : RunsI F todo e w R := fun a ha => hn a (h a ha)
theorem RunsI.only (live : List Nat) (e' : Env) (hl : live.all e.has = true) (he : e.only live = e') (hn : RunsI F todo e' w R) : RunsI F todo e w R :=
  RunsI.env (fun a ha => by subst he; exact ha.mono (Env.only_has e live (fun t ht => List.all_eq_true.1 hl t ht))) hn

def opsOf (B : Code) (n : Nat) : Array Oper := match (pre B)[n]? with | some (.region _ ops _) => ops | _ => #[]
def isRegion (B : Code) (n : Nat) (d : Bool) : Bool := match (pre B)[n]? with | some (.region _ _ draw) => draw == d | _ => false
theorem isRegion_spec {B : Code} {n : Nat} {d : Bool} (h : isRegion B n d = true) : ∃ id, nth B n = .region id (opsOf B n) d := by
  unfold isRegion at h
  unfold opsOf nth
  cases hn : (pre B)[n]? with
  | none => simp [hn] at h
  | some c =>
    cases c <;> simp only [hn] at h <;> first | (cases h; done) | skip
    rename_i id ops draw
    exact ⟨id, by simp only [Option.getD_some]; rw [eq_of_beq h]⟩

def RegI (F : Fun P) (n : Nat) (k : List It) (i : Nat) (e : Env) (w : World) (R : Ending → World → Prop) : Prop :=
  RegE P F.f F.N F.ds F.ro (opsOf F.B n) (k.map (It.item F.B)) ((opsOf F.B n).toList.drop i) e w R
theorem RunsI.region (h : isRegion F.B n false = true) (hn : RegI F n k 0 e w R) : RunsI F (.c n :: k) e w R := by
  obtain ⟨id, hid⟩ := isRegion_spec h
  intro a ha
  simp only [List.map_cons, It.item, hid]
  exact runs_of_wp (wpL_region (by simpa using hn a ha))
theorem RegI.done (h : Nat.ble (opsOf F.B n).size i = true) (hn : RunsI F k e w R) : RegI F n k i e w R := by
  unfold RegI
  rw [List.drop_eq_nil_of_le (by simpa using Nat.le_of_ble_eq_true h)]
  exact RegE.nil hn
theorem RegI.pure (m : Nat) (live : List Nat) (e' : Env) (h : evalKeep P F.N (opsOf F.B n) (((opsOf F.B n).toList.drop i).take m) e w live = some (e', w)) (hn : RegI F n k (i + m) e' w R) : RegI F n k i e w R :=
  RegE.pure m live e' h (by rw [List.drop_drop]; exact hn)
def opOf (B : Code) (n i : Nat) : Oper := ((opsOf B n)[i]?).getD default
theorem drop_op {B : Code} {n i : Nat} (h : Nat.blt i (opsOf B n).size = true) : (opsOf B n).toList.drop i = opOf B n i :: (opsOf B n).toList.drop (i + 1) := by
  have hi : i < (opsOf B n).toList.length := by simpa using h
  rw [List.drop_eq_getElem_cons hi]
  congr 1
  have : i < (opsOf B n).size := by simpa using hi
  simp [opOf, this]
def opOk (F : Fun P) (n i : Nat) (e : Env) (d : Nat) : Bool :=
  Nat.blt i (opsOf F.B n).size && (match wantedE (opsOf F.B n) e (opOf F.B n i) with | some b => b | none => false) && canAll e (opOf F.B n i) &&
    (match (opOf F.B n i).dst with | some x => Nat.beq x d && Nat.blt d F.N | none => false)
def opOk0 (F : Fun P) (n i : Nat) (e : Env) : Bool :=
  Nat.blt i (opsOf F.B n).size && (match wantedE (opsOf F.B n) e (opOf F.B n i) with | some b => b | none => false) && canAll e (opOf F.B n i) &&
    (match (opOf F.B n i).dst with | some _ => false | none => true)
theorem opOk_spec {d : Nat} (h : opOk F n i e d = true) : Nat.blt i (opsOf F.B n).size = true ∧ wantedE (opsOf F.B n) e (opOf F.B n i) = some true ∧ canAll e (opOf F.B n i) = true ∧ (opOf F.B n i).dst = some d ∧ Nat.blt d F.N = true := by
  simp only [opOk, Bool.and_eq_true] at h
  obtain ⟨⟨⟨h1, h2⟩, h3⟩, h4⟩ := h
  refine ⟨h1, ?_, h3, ?_⟩
  · cases hw : wantedE (opsOf F.B n) e (opOf F.B n i) with
    | none => simp [hw] at h2
    | some b => simp only [hw] at h2; rw [h2]
  · cases hd : (opOf F.B n i).dst with
    | none => simp [hd] at h4
    | some x => simp only [hd, Bool.and_eq_true] at h4; exact ⟨by rw [Nat.eq_of_beq_eq_true h4.1], h4.2⟩
theorem opOk0_spec (h : opOk0 F n i e = true) : Nat.blt i (opsOf F.B n).size = true ∧ wantedE (opsOf F.B n) e (opOf F.B n i) = some true ∧ canAll e (opOf F.B n i) = true ∧ (opOf F.B n i).dst = none := by
  simp only [opOk0, Bool.and_eq_true] at h
  obtain ⟨⟨⟨h1, h2⟩, h3⟩, h4⟩ := h
  refine ⟨h1, ?_, h3, ?_⟩
  · cases hw : wantedE (opsOf F.B n) e (opOf F.B n i) with
    | none => simp [hw] at h2
    | some b => simp only [hw] at h2; rw [h2]
  · cases hd : (opOf F.B n i).dst with
    | none => rfl
    | some x => simp [hd] at h4
def OpE (F : Fun P) (n i : Nat) (e : Env) (w : World) (K : Env → World → Prop) : Prop :=
  ∀ (Q : Exit → Act → World → Prop) (a : Act) (J : Act → World → Prop), Agree F.N F.ds e a → (∀ e' w' a', K e' w' → Agree F.N F.ds e' a' → J a' w') → wpOpIn (Fw F.ro) 0 P (opsOf F.B n) Q i J a w
theorem at_op {B : Code} {n i : Nat} (h : Nat.blt i (opsOf B n).size = true) : (opsOf B n)[i]? = some (opOf B n i) := by
  have : i < (opsOf B n).size := by simpa using h
  simp [opOf, this]
section
variable {K : Env → World → Prop}
theorem OpE.run (d : Nat) {v : Value} (ho : opOk F n i e d = true) (hr : (execOp e.eval (opOf F.B n i)).run P w = .ok (.value v) w') (hn : K ((d, v) :: e) w') : OpE F n i e w K := by
  obtain ⟨h1, h2, h3, h4, h5⟩ := opOk_spec ho
  intro Q a J ha hJ
  unfold wpOpIn
  simp only [at_op h1]
  rw [if_pos (wanted_agree ha h2)]
  refine wp_value (canAll_defer h3) ((congrArg (fun s => s.run P w) (exec_agree ha h3)).trans hr) ?_
  rw [h4]
  exact hJ _ _ _ hn (ha.put (by simpa using h5) v)
theorem OpE.skip (ho : opOk0 F n i e = true) (hr : (execOp e.eval (opOf F.B n i)).run P w = .ok .skip w') (hn : K e w') : OpE F n i e w K := by
  obtain ⟨h1, h2, h3, h4⟩ := opOk0_spec ho
  intro Q a J ha hJ
  unfold wpOpIn
  simp only [at_op h1]
  rw [if_pos (wanted_agree ha h2)]
  refine wp_skip (canAll_defer h3) ((congrArg (fun s => s.run P w) (exec_agree ha h3)).trans hr) ?_
  rw [h4]
  exact hJ _ _ _ hn ha
def cont (K : Env → World → Prop) (d : Nat) (e : Env) : Ending → World → Prop := fun e1 w1 => ∃ v, e1 = .returned v ∧ K ((d, v) :: e) w1
theorem cont_mk {d : Nat} {v : Value} (h : K ((d, v) :: e) w) : cont K d e (.returned v) w := ⟨v, rfl, h⟩
theorem OpE.call (d : Nat) (ho : opOk F n i e d = true) (g : FuncId) (args : Array Value) (hr : (execOp e.eval (opOf F.B n i)).run P w = .ok (.enter g args) w)
    (h : Calls P g args w (cont K d e)) : OpE F n i e w K := by
  obtain ⟨h1, h2, h3, h4, h5⟩ := opOk_spec ho
  intro Q a J ha hJ
  unfold wpOpIn
  simp only [at_op h1]
  rw [if_pos (wanted_agree ha h2)]
  refine wp_enter (canAll_defer h3) ((congrArg (fun s => s.run P w) (exec_agree ha h3)).trans hr) ?_
  refine h.mono fun e1 w1 hh => ?_
  obtain ⟨v, rfl, hk⟩ := hh
  refine ⟨v, rfl, ?_⟩
  simp only [h4]
  exact hJ _ _ _ hk (ha.put (by simpa using h5) v)
end
theorem RegI.op (hlt : Nat.blt i (opsOf F.B n).size = true) (h : OpE F n i e w (fun e' w' => RegI F n k (i + 1) e' w' R)) : RegI F n k i e w R := by
  intro a ha
  have := h (Qk P F.f F.ro (k.map (It.item F.B)) R) a (wpL P F.ro (opsOf F.B n) (Qk P F.f F.ro (k.map (It.item F.B)) R) ((opsOf F.B n).toList.drop (i + 1))) ha (fun e' w' a' hk ha' => hk a' ha')
  unfold wpOpIn at this
  simp only [at_op hlt] at this
  rw [drop_op hlt]
  unfold wpL
  split
  · rename_i hw
    rw [if_pos hw] at this
    exact this
  · rename_i hw
    rw [if_neg hw] at this
    exact this.2

def condOk (B : Code) (n : Nat) (e : Env) (b : Bool) : Option Nat :=
  match (pre B)[n]? with
  | some (.cond c x _) => cond (e.can c) (match e.eval c with | .bool b' => cond (b' == b) (some (cond b (n + 1) (n + (1 + (pre x).length)))) none | _ => none) none
  | _ => none
theorem RunsI.cond (b : Bool) (m : Nat) (h : condOk F.B n e b = some m) (hn : RunsI F (.c m :: k) e w R) : RunsI F (.c n :: k) e w R := by
  unfold condOk at h
  cases hc : (pre F.B)[n]? with
  | none => simp [hc] at h
  | some c =>
    cases c <;> simp only [hc] at h <;> first | (cases h; done) | skip
    rename_i c x y
    cases hcan : e.can c with
    | false => simp [hcan] at h
    | true =>
      simp only [hcan, cond_true] at h
      cases hv : e.eval c <;> simp only [hv] at h <;> first | (cases h; done) | skip
      rename_i b'
      cases hbb : (b' == b) with
      | false => simp [hbb] at h
      | true =>
        have := eq_of_beq hbb
        subst this
        simp only [hbb, cond_true, Option.some.injEq] at h
        have h0 := nth_of hc
        have h1 : nth F.B (n + 1) = x := nth_next 1 hc (by simp only [pre, List.getElem?_cons_succ]; exact get_app_left (pre_head x))
        have h2 : nth F.B (n + (1 + (pre x).length)) = y := nth_next _ hc (by
          simp only [pre, show 1 + (pre x).length = (pre x).length + 1 by omega, List.getElem?_cons_succ]
          have := get_app_right (pre x) (pre y) 0
          rw [Nat.add_zero] at this
          rw [this]; exact pre_head y)
        intro a ha
        refine Runs.step (fun cs => ?_) (hn a ha)
        simp only [List.map_cons, It.item, h0]
        have := stepR_cond (P := P) (b := base F.f F.ro) (k := k.map (It.item F.B)) (cs := cs) (w := w) (x := x) (y := y) ((ha.eval c hcan).trans hv)
        rw [this]
        subst h
        cases b' <;> simp [It.item, h1, h2]

def resultsE (fn : Func) (e : Env) : Option Value :=
  match fn.results with
  | ⟨[]⟩ => some (.tuple #[])
  | ⟨[.tmp t]⟩ => cond (e.has t) (some (e.get t)) none
  | ⟨[.tmp t, .tmp u]⟩ => cond (e.has t && e.has u) (some (.tuple #[e.get t, e.get u])) none
  | ⟨[.tmp t, .tmp u, .tmp x]⟩ => cond (e.has t && e.has u && e.has x) (some (.tuple #[e.get t, e.get u, e.get x])) none
  | ⟨[.tmp t, .tmp u, .tmp x, .tmp y]⟩ => cond (e.has t && e.has u && e.has x && e.has y) (some (.tuple #[e.get t, e.get u, e.get x, e.get y])) none
  | ⟨[.tmp t, .tmp u, .tmp x, .tmp y, .tmp z]⟩ => cond (e.has t && e.has u && e.has x && e.has y && e.has z) (some (.tuple #[e.get t, e.get u, e.get x, e.get y, e.get z])) none
  | _ => none
theorem results_agree {fn : Func} {a : Act} {N : Nat} {ds : List Nat} {v : Value} (ha : Agree N ds e a) (h : resultsE fn e = some v) : (results fn a.tmps).run P w = .ok v w := by
  unfold resultsE at h
  split at h <;> rename_i hr
  · cases h; simp [results, hr]
  · rename_i t
    cases hh : e.has t with
    | false => simp [hh] at h
    | true => simp only [hh, cond_true, Option.some.injEq] at h; subst h; simp only [results, hr]; simp; have := ha.slots t hh; simpa using this
  · rename_i t u
    cases hh : (e.has t && e.has u) with
    | false => simp [hh] at h
    | true =>
      simp only [hh, cond_true, Option.some.injEq] at h
      simp only [Bool.and_eq_true] at hh
      subst h
      have h1 := ha.slots t hh.1
      have h2 := ha.slots u hh.2
      simp at h1 h2
      simp [results, hr, h1, h2]
  · rename_i t u x
    cases hh : (e.has t && e.has u && e.has x) with
    | false => simp [hh] at h
    | true =>
      simp only [hh, cond_true, Option.some.injEq] at h
      simp only [Bool.and_eq_true] at hh
      subst h
      have h1 := ha.slots t hh.1.1
      have h2 := ha.slots u hh.1.2
      have h3 := ha.slots x hh.2
      simp at h1 h2 h3
      simp [results, hr, h1, h2, h3]
  · rename_i t u x y
    cases hh : (e.has t && e.has u && e.has x && e.has y) with
    | false => simp [hh] at h
    | true =>
      simp only [hh, cond_true, Option.some.injEq] at h
      simp only [Bool.and_eq_true] at hh
      subst h
      have h1 := ha.slots t hh.1.1.1
      have h2 := ha.slots u hh.1.1.2
      have h3 := ha.slots x hh.1.2
      have h4 := ha.slots y hh.2
      simp at h1 h2 h3 h4
      simp [results, hr, h1, h2, h3, h4]
  · rename_i t u x y z
    cases hh : (e.has t && e.has u && e.has x && e.has y && e.has z) with
    | false => simp [hh] at h
    | true =>
      simp only [hh, cond_true, Option.some.injEq] at h
      simp only [Bool.and_eq_true] at hh
      subst h
      have h1 := ha.slots t hh.1.1.1.1
      have h2 := ha.slots u hh.1.1.1.2
      have h3 := ha.slots x hh.1.1.2
      have h4 := ha.slots y hh.1.2
      have h5 := ha.slots z hh.2
      simp at h1 h2 h3 h4 h5
      simp [results, hr, h1, h2, h3, h4, h5]
  · cases h
def isRet (B : Code) : List It → Bool
  | [] => true
  | .c n :: _ => match (pre B)[n]? with | some .ret => true | _ => false
  | _ => false
def RetI (F : Fun P) (e : Env) (w : World) (R : Ending → World → Prop) : Prop := ∀ a todo, Agree F.N F.ds e a → Rets P F.f todo a w R
theorem RunsI.toRet (hr : isRet F.B todo = true) (h : RetI F e w R) (hro : F.ro = none := by rfl) : RunsI F todo e w R := by
  intro a ha
  show Runs P F.f F.ro _ a w R
  rw [hro]
  cases todo with
  | nil => exact runs_end (h a _ ha)
  | cons x k =>
    cases x with
    | c n =>
      simp only [isRet] at hr
      cases hn : (pre F.B)[n]? with
      | none => simp [hn] at hr
      | some c =>
        cases c <;> simp only [hn] at hr <;> first | (cases hr; done) | skip
        simp only [List.map_cons, It.item, nth_of hn]
        exact runs_ret (h a _ ha)
    | _ => simp [isRet] at hr
theorem RetI.done (v : Value) (h : ∀ a, Agree F.N F.ds e a → (results F.fn a.tmps).run P w = .ok v w) (hR : R (.returned v) w) (hds : F.ds = [] := by rfl) : RetI F e w R :=
  fun a todo ha => rets_nil F.hf (h a ha) (by rw [ha.defers, hds]; rfl) hR
theorem RetI.val (v : Value) (h : resultsE F.fn e = some v) (hR : R (.returned v) w) (hds : F.ds = [] := by rfl) : RetI F e w R :=
  RetI.done v (fun a ha => results_agree ha h) hR hds
theorem RetI.taken (D : Nat) (hD : w.heap[D]? = some (.deferred (some []))) (h : RetI F e (w.putObj D (.deferred none)) R) : RetI (F.df D) e w R := by
  intro a todo ha
  have h1 : a.defers = { target := .collected D, args := #[] } :: defs F.ds := ha.defers
  refine Arr.steps (fun cs => Steps.one (step_collected (r := D) (ds := defs F.ds) (calls := []) (by simp) h1 rfl (run_takeDeferred hD))) ?_
  exact h { a with defers := defs F.ds } todo ⟨ha.size, rfl, ha.slots⟩
theorem RunsI.ret (v : Value) (hr : isRet F.B todo = true) (h : resultsE F.fn e = some v) (hR : R (.returned v) w) (hro : F.ro = none := by rfl) (hds : F.ds = [] := by rfl) : RunsI F todo e w R :=
  RunsI.toRet hr (RetI.val v h hR hds) hro
def argEnv : Nat → List Value → Env
  | _, [] => []
  | i, v :: l => (i, v) :: argEnv (i + 1) l
theorem argEnv_has : ∀ (l : List Value) (i t : Nat), (argEnv i l).has t = true → i ≤ t ∧ t < i + l.length ∧ (argEnv i l).get t = l.getD (t - i) undef
  | [], i, t, h => by simp [argEnv, Env.has] at h
  | v :: l, i, t, h => by
    simp only [argEnv, Env.has, Env.get] at h ⊢
    cases hb : Nat.beq i t with
    | true => have := Nat.eq_of_beq_eq_true hb; subst this; simp
    | false =>
      simp only [hb, cond_false] at h
      have hne : i ≠ t := fun e => by subst e; simp at hb
      obtain ⟨h1, h2, h3⟩ := argEnv_has l (i + 1) t h
      refine ⟨by omega, by simp; omega, ?_⟩
      simp only [cond_false, h3]
      rw [show t - i = (t - (i + 1)) + 1 by omega]
      simp
theorem calls_of (F : Fun P) {f : FuncId} (hF : F.f = f) (args : List Value) (hle : Nat.ble args.length F.N = true) (h : RunsI F [.c 0] (argEnv 0 args) w R) (hro : F.ro = none := by rfl) (hds : F.ds = [] := by rfl) : Calls P f args.toArray w R := by
  subst hF
  refine calls_of_runs F.hf F.hb ?_
  have h0 : nth F.B 0 = F.B := nth_of (pre_head F.B)
  have := h { tmps := args.toArray ++ Array.replicate (F.fn.ntmps - args.toArray.size) undef, defers := [] } ?_
  · rw [hro] at this
    simpa [It.item, h0] using this
  · have hl := Nat.le_of_ble_eq_true hle
    refine ⟨?_, by rw [hds]; rfl, fun t ht => ?_⟩
    · simp [F.hN]; omega
    · obtain ⟨_, h2, h3⟩ := argEnv_has args 0 t ht
      rw [h3]
      simp only [Nat.zero_add] at h2
      simp [Array.getElem?_append, h2]
end
#print axioms OpE.call
#print axioms RegI.op
#print axioms RunsI.ret
#print axioms calls_of
end Go.Eng
