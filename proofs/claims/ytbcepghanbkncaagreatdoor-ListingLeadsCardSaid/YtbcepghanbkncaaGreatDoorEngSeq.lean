/- The engine's ranges over functions: the loop's record, a round, the marks. -/
import Derived.Test.YtbcepghanbkncaaGreatDoorEngStr
set_option linter.unusedVariables false
set_option linter.unusedSimpArgs false
namespace Go.Eng
open Go.RowKit
def rngOf (B : Code) (m : Nat) : Option (Operand × Array Tmp × Code × Code) := match (pre B)[m]? with | some (.rangeFunc g ps a b) => some (g, ps, a, b) | _ => none
def rng {P : Program} (F : Fun P) (m l : Nat) (e : Env) (st : LoopState) (pd : Option Nat) : Chunk :=
  ⟨[l], fun w _ => ∃ g ps a b tmps D, rngOf F.B m = some (g, ps, a, b) ∧ w.heap[l]? = some (.loop { state := st, pending := pd.map (nth F.B), fn := F.f, tmps, params := ps, assign := a, body := b, defers := D }) ∧
      tmps.size = F.N ∧ ∀ t, e.has t = true → tmps.getD t undef = e.get t,
    fun h1 h2 h3 ⟨g, ps, a, b, tmps, D, hr, h, hs, he⟩ => ⟨g, ps, a, b, tmps, D, hr, (h2 l (Array.getElem?_eq_some_iff.1 h).1 (.inl (List.mem_singleton.2 rfl))).trans h, hs, he⟩⟩
def dfr (D : Nat) : Chunk :=
  ⟨[D], fun w _ => w.heap[D]? = some (.deferred (some [])), fun h1 h2 h3 h => (h2 D (Array.getElem?_eq_some_iff.1 h).1 (.inl (List.mem_singleton.2 rfl))).trans h⟩
def dead (D : Nat) : Chunk := ⟨[D], fun _ _ => True, fun _ _ _ _ => trivial⟩
theorem Runs.mono {P : Program} {f : FuncId} {ro : Option Nat} {todo : List Item} {a : Act} {w : World} {R R' : Ending → World → Prop} (h : Runs P f ro todo a w R) (hr : ∀ e w', R e w' → R' e w') : Runs P f ro todo a w R' := by
  unfold Runs at *
  cases ro with
  | none => exact fun cs => let ⟨e, w2, fr, r, rest⟩ := h cs; ⟨e, w2, fr, hr _ _ r, rest⟩
  | some l => exact fun c cs => let ⟨v, w2, r, co⟩ := h c cs; ⟨v, w2, hr _ _ r, co⟩
section
variable {P : Program} {F G : Fun P} {k : List It} {e e' eG : Env} {w w' w0 : World} {R : Ending → World → Prop} {n i m l c : Nat} {M0 : Nat → Prop} {H : List Chunk} {K : Env → World → Prop}
theorem Holds.put {x : Chunk} (hH : Holds M0 w0 w H) (hi : H[c]? = some x) (b : Nat) (hb : x.mine = [b]) (x' : Chunk) (hb' : x'.mine = [b]) (o : Obj) (hok : ∀ M, (w.putObj b o).heap[b]? = some o → x'.ok (w.putObj b o) M) :
    Holds M0 w0 (w.putObj b o) (H.set c x') ∧ Kp [b] w (w.putObj b o) := by
  have hbm := hH.mine b (List.mem_flatMap.2 ⟨_, List.mem_of_getElem? hi, by rw [hb]; exact List.mem_singleton.2 rfl⟩)
  refine ⟨hH.turn c hi ?_ (by simp) (fun y _ hy => World.putObj_heap_other (fun h => hy (by rw [hb, h]; exact List.mem_singleton.2 rfl))) (fun y hy => .inl (by rw [hb]; rwa [hb'] at hy)) (by rw [hb']; simp) (fun _ => hok _ (World.putObj_heap_same hbm.2)), by simp, fun y _ hy => World.putObj_heap_other (fun h => hy (by rw [h]; exact List.mem_singleton.2 rfl))⟩
  have h := hH.below
  exact ⟨h.os, h.tape, h.output, by simp; exact h.size, fun y hy => by rw [World.putObj_heap_other (by omega)]; exact h.block y hy⟩
def contR (F : Fun P) (todo : List It) (e : Env) (R : Ending → World → Prop) : Ending → World → Prop := fun e1 w1 => ∃ v, e1 = .returned v ∧ RunsI F todo e w1 R
theorem contR_mk {todo : List It} {v : Value} (h : RunsI F todo e w R) : contR F todo e R (.returned v) w := ⟨v, rfl, h⟩
def rngFn (B : Code) (n : Nat) (e : Env) : Option (FuncId × Array Value) := match rngOf B n with | some (g, _, _, _) => cond (e.can g) (match e.eval g with | .func (.func gf) ⟨[]⟩ caps => some (gf, caps) | _ => none) none | none => none
theorem RunsI.rangeFunc (live : List Nat) (e' : Env) (gf : FuncId) (caps : List Value) (hH : Holds M0 w0 w H) (hg : rngFn F.B n e = some (gf, caps.toArray)) (hl : live.all e.has = true) (he : e.only live = e')
    (hc : ∀ (l : Nat) (w : World), (callFunc gf (.func (.yield l) #[] #[] :: caps).toArray).run P w = .ok (.enter gf (.func (.yield l) #[] #[] :: caps).toArray) w) (hro : F.ro = none) (hG : G.f = gf) (hle : Nat.ble (caps.length + 1) G.N = true) (hGr : G.ro = none) (hGd : G.ds = [])
    (h : ∀ (D l : Nat) (w' : World), Holds M0 w0 w' (H ++ [dfr D, rng F n l e' .ready none]) → Below w.heap.size w w' → w.heap.size ≤ D → w.heap.size ≤ l → RunsI G [.c 0] (argEnv 0 (.func (.yield l) #[] #[] :: caps)) w' (contR (F.df D) (.erf l :: k) e' R)) :
    RunsI F (.c n :: k) e w R := by
  unfold rngFn at hg
  cases hr : rngOf F.B n with
  | none => simp [hr] at hg
  | some q =>
    obtain ⟨g, ps, x, y⟩ := q
    simp only [hr] at hg
    have hnode : (pre F.B)[n]? = some (.rangeFunc g ps x y) := by
      unfold rngOf at hr
      cases hn : (pre F.B)[n]? with
      | none => simp [hn] at hr
      | some d => cases d <;> simp [hn] at hr; obtain ⟨rfl, rfl, rfl, rfl⟩ := hr; rfl
    cases hcan : e.can g with
    | false => simp [hcan] at hg
    | true =>
      simp only [hcan, cond_true] at hg
      intro a ha
      have hev : a.eval g = .func (.func gf) #[] caps.toArray := by
        rw [ha.eval g hcan]
        split at hg <;> first | (cases hg; done) | skip
        rename_i hh
        simp only [Option.some.injEq, Prod.mk.injEq] at hg
        obtain ⟨rfl, rfl⟩ := hg
        exact hh
      have ha' : Agree F.N F.ds e' a := by subst he; exact ha.mono (Env.only_has e live (fun t ht => List.all_eq_true.1 hl t ht))
      obtain ⟨W1, hW1⟩ : ∃ W1, (w.alloc (.deferred (some []))).alloc (.loop { state := .ready, pending := none, fn := F.f, tmps := a.tmps, params := ps, assign := x, body := y, defers := w.heap.size }) = W1 := ⟨_, rfl⟩
      have hs1 : (w.alloc (.deferred (some []))).heap.size = w.heap.size + 1 := by simp
      have hs2 : W1.heap.size = w.heap.size + 2 := by rw [← hW1]; simp
      have hD : W1.heap[w.heap.size]? = some (.deferred (some [])) := by rw [← hW1, alloc_old _ _ (by rw [hs1]; omega)]; exact alloc_new _ _
      have hL : W1.heap[w.heap.size + 1]? = some (.loop { state := .ready, pending := none, fn := F.f, tmps := a.tmps, params := ps, assign := x, body := y, defers := w.heap.size }) := by rw [← hW1]; have := alloc_new (w.alloc (.deferred (some []))) (.loop { state := .ready, pending := none, fn := F.f, tmps := a.tmps, params := ps, assign := x, body := y, defers := w.heap.size }); rwa [hs1] at this
      have hb : Below w.heap.size w W1 := by rw [← hW1]; exact ((Below.refl _ w).alloc (Nat.le_refl _) _).alloc (by simp) _
      have hH1 : Holds M0 w0 W1 (H ++ [dfr w.heap.size, rng F n (w.heap.size + 1) e' .ready none]) := by
        have h1 := hH.call hb
        have hm2 : mines (H ++ [dfr w.heap.size, rng F n (w.heap.size + 1) e' .ready none]) = mines H ++ [w.heap.size, w.heap.size + 1] := by simp [mines, dfr, rng]
        refine ⟨h1.below, h1.old, fun c hc => ?_, fun b hb' => ?_, ?_⟩
        · rcases List.mem_append.1 hc with hc | hc
          · refine c.keep hb.size (fun b hlt _ => hb.block b hlt) (fun b hlt hm => ?_) (hH.ok c hc)
            rcases hm with hm | hm
            · exact .inl hm
            · rw [hm2] at hm
              rcases List.mem_append.1 hm with hm | hm
              · exact .inr hm
              · simp at hm; omega
          · rcases List.mem_cons.1 hc with hc | hc
            · subst hc; exact hD
            · rw [List.mem_singleton.1 hc]
              exact ⟨g, ps, x, y, a.tmps, _, hr, hL, ha.size, ha'.slots⟩
        · rw [hm2] at hb'
          rcases List.mem_append.1 hb' with hb' | hb'
          · exact h1.mine b hb'
          · have := hH.below.size
            simp at hb'
            omega
        · rw [hm2]
          refine List.nodup_append.2 ⟨hH.nodup, by simp, fun u hu v hv huv => ?_⟩
          have := (hH.mine u hu).2
          simp at hv
          omega
      have hcall := calls_of G hG (.func (.yield (w.heap.size + 1)) #[] #[] :: caps) (by simpa using hle) (h w.heap.size (w.heap.size + 1) W1 hH1 hb (Nat.le_refl _) (Nat.le_succ _)) hGr hGd
      have henter : ∀ cs, step P (lone ((base F.f F.ro).atR a (.code (.rangeFunc g ps x y) :: k.map (It.item F.B))) cs w) =
          .next (lone (Frame.enter P gf (.func (.yield (w.heap.size + 1)) #[] #[] :: caps).toArray .normal) ((base F.f F.ro).atR { a with defers := { target := .collected w.heap.size, args := #[] } :: a.defers } (.inRangeFunc (w.heap.size + 1) :: k.map (It.item F.B)) :: cs) W1) := fun cs => by
        have he0 : (Instr.enterLoop (base F.f F.ro).fn a.tmps ps x y (base F.f F.ro).roundOf).run P w = .ok (w.heap.size + 1, [{ target := .collected w.heap.size, args := #[] }]) W1 := by
          show (Instr.enterLoop F.f a.tmps ps x y F.ro).run P w = _
          rw [hro, ← hW1]
          exact run_enterLoop_outer _ _ _ _ _
        exact stepR_rangeFunc (d := { target := .fn (.func gf) caps.toArray, args := #[.func (.yield (w.heap.size + 1)) #[] #[]] }) he0 (by
          simp only [resolve, hev]
          simp [go_sem]
          rfl) (by
          have := hc (w.heap.size + 1) W1
          simp only [invoke]
          have happ : (#[.func (.yield (w.heap.size + 1)) #[] #[]] ++ caps.toArray : Array Value) = (.func (.yield (w.heap.size + 1)) #[] #[] :: caps).toArray := by simp
          rw [happ]
          exact this)
      simp only [List.map_cons, It.item, nth_of hnode]
      unfold Runs
      have fin : ∀ cs v w2 fr, fr.leaving P w2 (.returned v) →
          step P (lone fr ((base F.f F.ro).atR { a with defers := { target := .collected w.heap.size, args := #[] } :: a.defers } (.inRangeFunc (w.heap.size + 1) :: k.map (It.item F.B)) :: cs) w2) = .next (lone ((base F.f F.ro).atR { a with defers := { target := .collected w.heap.size, args := #[] } :: a.defers } (.endRangeFunc (w.heap.size + 1) :: k.map (It.item F.B))) cs w2) := fun cs v w2 fr hl => by
        have := step_leave_returned (c := (base F.f F.ro).atR { a with defers := { target := .collected w.heap.size, args := #[] } :: a.defers } (.inRangeFunc (w.heap.size + 1) :: k.map (It.item F.B))) (cs := cs) hl
        rw [finish_atR_inRangeFunc] at this
        exact this
      have hag : Agree (F.df w.heap.size).N (F.df w.heap.size).ds e' { a with defers := { target := .collected w.heap.size, args := #[] } :: a.defers } := ⟨ha'.size, by show _ :: a.defers = _; rw [ha.defers]; rfl, ha'.slots⟩
      generalize hroE : F.ro = ro at *
      subst hro
      intro cs
      obtain ⟨e1, w2, fr, ⟨v, he1, hk⟩, hco, hfn, hlv⟩ := hcall (((base F.f none).atR { a with defers := { target := .collected w.heap.size, args := #[] } :: a.defers } (.inRangeFunc (w.heap.size + 1) :: k.map (It.item F.B))) :: cs)
      subst he1
      have hk2 := hk _ hag
      unfold Runs at hk2
      rw [show (F.df w.heap.size).ro = none from hroE] at hk2
      obtain ⟨e3, w3, fr3, hR3, hco3, hfn3, hlv3⟩ := hk2 cs
      exact ⟨e3, w3, fr3, hR3, .of_steps (.head (henter cs) (Steps.trans hco (.one (fin cs v w2 fr hlv)))) hco3, hfn3, hlv3⟩
def putPs : List Nat → List Value → Env → Env
  | p :: ps, v :: vs, e => putPs ps vs ((p, v) :: e)
  | _, _, e => e
theorem putPs_agree {N : Nat} : ∀ (ps : List Nat) (vs : List Value) (e : Env) (tmps : Array Value), ps.all (fun p => Nat.blt p N) = true → tmps.size = N → (∀ t, e.has t = true → tmps.getD t undef = e.get t) →
    ((ps.zip vs).foldl (fun (tmps : Array Value) (x : Nat × Value) => tmps.setIfInBounds x.1 x.2) tmps).size = N ∧ ∀ t, (putPs ps vs e).has t = true → ((ps.zip vs).foldl (fun (tmps : Array Value) (x : Nat × Value) => tmps.setIfInBounds x.1 x.2) tmps).getD t undef = (putPs ps vs e).get t
  | [], vs, e, tmps, hp, hs, he => ⟨hs, he⟩
  | p :: ps, [], e, tmps, hp, hs, he => ⟨hs, he⟩
  | p :: ps, v :: vs, e, tmps, hp, hs, he => by
    simp only [List.all_cons, Bool.and_eq_true] at hp
    have hpN : p < N := by simpa using hp.1
    simp only [List.zip_cons_cons, List.foldl_cons, putPs]
    refine putPs_agree ps vs _ _ hp.2 (by simp [hs]) fun t ht => ?_
    have := (Agree.put (N := N) (ds := []) (e := e) (a := ⟨tmps, []⟩) ⟨hs, rfl, he⟩ hpN v).slots t ht
    simpa [Act.put] using this
def yieldOf (F : Fun P) (n i : Nat) (e : Env) : Option (Nat × Array Value) :=
  match (opOf F.B n i).op with
  | .call { callee := .value f, args := as, argTypes := _ } => (match e.eval f with | .func (.yield l) ⟨[]⟩ ⟨[]⟩ => some (l, as.map e.eval) | _ => none)
  | _ => none
theorem yield_run {as : Array Value} (hx : yieldOf F n i e = some (l, as)) {r : Loop} (h : w.heap[l]? = some (.loop r)) (hs : as.size = r.params.size) :
    (execOp e.eval (opOf F.B n i)).run P w = .ok (.round l r.fn ((r.params.zip as).foldl (fun tmps (t, a) => tmps.setIfInBounds t a) r.tmps) r.assign r.body) w := by
  unfold yieldOf at hx
  cases hop : (opOf F.B n i).op <;> simp only [hop] at hx <;> first | (cases hx; done) | skip
  rename_i c
  obtain ⟨cal, ar, at_⟩ := c
  cases cal <;> simp only at hx <;> first | (cases hx; done) | skip
  rename_i f
  split at hx <;> first | (cases hx; done) | skip
  rename_i l' hf
  simp only [Option.some.injEq, Prod.mk.injEq] at hx
  obtain ⟨rfl, rfl⟩ := hx
  have hy := run_yield (P := P) h hs
  unfold execOp
  simp only [hop, resolve, hf]
  simp [Deferred.ofValue, invoke, hy]
def psOf (B : Code) (m : Nat) : List Nat := match rngOf B m with | some (_, ps, _, _) => ps.toList | none => []
def roundTodo (B : Code) (m : Nat) : List It := match rngOf B m with | some (_, _, a, _) => [.c (m + 1), .bg, .c (m + (1 + (pre a).length))] | none => []
theorem arr_yield {l m : Nat} {vs : List Value} {st : LoopState} {pd : Option Nat} (hH : Holds M0 w0 w H) (hi : H[c]? = some (rng G m l eG st pd)) (hp : (psOf G.B m).all (fun p => Nat.blt p G.N) = true) (hlen : vs.length = (psOf G.B m).length) (todo : List It) (hto : roundTodo G.B m = todo) (e1 : Env) (he1 : putPs (psOf G.B m) vs eG = e1) {R : Ending → World → Prop}
    (h : RunsI (G.rd l) todo e1 w R) : ∃ r : Loop, w.heap[l]? = some (.loop r) ∧ vs.toArray.size = r.params.size ∧
      Arr P r.fn (some l) (fun cs => lone (Frame.round l r.fn ((r.params.zip vs.toArray).foldl (fun tmps (t, a) => tmps.setIfInBounds t a) r.tmps) r.assign r.body .normal) cs w) R := by
  obtain ⟨g, ps, x, y, tmps, D, hr, hL, hs, hag⟩ := hH.get c hi
  refine ⟨_, hL, ?_, ?_⟩
  · have : (psOf G.B m).length = ps.size := by simp [psOf, hr]
    simp [hlen, this]
  · have hnode : (pre G.B)[m]? = some (.rangeFunc g ps x y) := by
      unfold rngOf at hr
      cases hn : (pre G.B)[m]? with
      | none => simp [hn] at hr
      | some d => cases d <;> simp [hn] at hr; obtain ⟨rfl, rfl, rfl, rfl⟩ := hr; rfl
    have h1 : nth G.B (m + 1) = x := nth_next 1 hnode (by simp only [pre, List.getElem?_cons_succ]; exact get_app_left (pre_head x))
    have h2 : nth G.B (m + (1 + (pre x).length)) = y := nth_next _ hnode (by
      simp only [pre, show 1 + (pre x).length = (pre x).length + 1 by omega, List.getElem?_cons_succ]
      have := get_app_right (pre x) (pre y) 0
      rw [Nat.add_zero] at this
      rw [this]; exact pre_head y)
    have hps : psOf G.B m = ps.toList := by simp [psOf, hr]
    have hz : (ps.zip vs.toArray).foldl (fun (tmps : Array Value) (x : Nat × Value) => match x with | (t, a) => tmps.setIfInBounds t a) tmps = ((psOf G.B m).zip vs).foldl (fun (tmps : Array Value) (x : Nat × Value) => tmps.setIfInBounds x.1 x.2) tmps := by
      rw [hps, ← Array.foldl_toList, Array.toList_zip]
    have hpa := putPs_agree (psOf G.B m) vs eG tmps hp hs hag
    subst hto he1
    have hrun := h { tmps := ((psOf G.B m).zip vs).foldl (fun (tmps : Array Value) (x : Nat × Value) => tmps.setIfInBounds x.1 x.2) tmps, defers := [] } ⟨hpa.1, rfl, hpa.2⟩
    rw [← hz] at hrun
    unfold Runs at hrun
    have hB : (G.rd l).B = G.B := rfl
    have hro : (G.rd l).ro = some l := rfl
    have hf : (G.rd l).f = G.f := rfl
    rw [hro, hB, hf] at hrun
    simp only [roundTodo, hr, List.map_cons, List.map_nil, It.item, h1, h2] at hrun
    exact hrun
theorem OpE.yield (d : Nat) (l m c : Nat) (vs : List Value) (hH : Holds M0 w0 w H) (ho : opOk F n i e d = true) {st : LoopState} {pd : Option Nat} (hi : H[c]? = some (rng G m l eG st pd)) (hx : yieldOf F n i e = some (l, vs.toArray)) (hp : (psOf G.B m).all (fun p => Nat.blt p G.N) = true) (hlen : vs.length = (psOf G.B m).length)
    (todo : List It) (hto : roundTodo G.B m = todo) (e1 : Env) (he1 : putPs (psOf G.B m) vs eG = e1) (h : RunsI (G.rd l) todo e1 w (cont K d e)) : OpE F n i e w K := by
  obtain ⟨h1, h2, h3, h4, h5⟩ := opOk_spec ho
  obtain ⟨r, hL, hs, harr⟩ := arr_yield hH hi hp hlen todo hto e1 he1 h
  intro Q a J ha hJ
  unfold wpOpIn
  simp only [at_op h1]
  rw [if_pos (wanted_agree ha h2)]
  refine wp_round (canAll_defer h3) ((congrArg (fun s => s.run P w) (exec_agree ha h3)).trans (yield_run hx hL hs)) ?_
  intro c0 cs
  obtain ⟨v, w', ⟨v', hv, hk⟩, hst⟩ := harr c0 cs
  refine ⟨v, w', ⟨v', hv, ?_⟩, hst⟩
  rw [h4]
  exact hJ _ _ _ hk (ha.put (by simpa using h5) v')
theorem RegI.yield (d : Nat) (l m c : Nat) (vs : List Value) (live : List Nat) (e' : Env) (hH : Holds M0 w0 w H) (hlt : Nat.blt i (opsOf F.B n).size = true) (ho : opOk F n i e d = true) (hl : live.all e.has = true) (he : e.only live = e') {st : LoopState} {pd : Option Nat} (hi : H[c]? = some (rng G m l eG st pd)) (hx : yieldOf F n i e = some (l, vs.toArray)) (hp : (psOf G.B m).all (fun p => Nat.blt p G.N) = true) (hlen : vs.length = (psOf G.B m).length)
    (todo : List It) (hto : roundTodo G.B m = todo) (e1 : Env) (he1 : putPs (psOf G.B m) vs eG = e1) (h : RunsI (G.rd l) todo e1 w (cont (fun e' w' => RegI F n k (i + 1) e' w' R) d e')) : RegI F n k i e w R := by
  refine RegI.op hlt (OpE.yield d l m c vs hH ho hi hx hp hlen todo hto e1 he1 ?_)
  intro a ha
  refine Runs.mono (h a ha) ?_
  rintro _ _ ⟨v, hv, hk⟩
  exact ⟨v, hv, fun a ha => hk a (Env.under hl he ha)⟩
theorem RunsI.begin (c : Nat) {m : Nat} (hH : Holds M0 w0 w H) (hro : F.ro = some l) (hi : H[c]? = some (rng G m l eG .ready none)) (h : ∀ w', Holds M0 w0 w' (H.set c (rng G m l eG .busy none)) → Kp [l] w w' → RunsI F k e w' R) : RunsI F (.bg :: k) e w R := by
  obtain ⟨g, ps, x, y, tmps, D, hr, hL, hs, hag⟩ := hH.get c hi
  obtain ⟨h1, h2⟩ := hH.put hi l rfl (rng G m l eG .busy none) rfl (.loop { state := .busy, pending := none, fn := G.f, tmps, params := ps, assign := x, body := y, defers := D }) (fun M hb => ⟨g, ps, x, y, tmps, D, hr, hb, hs, hag⟩)
  intro a ha
  refine Runs.step (fun cs => ?_) (h _ h1 h2 a ha)
  simp only [List.map_cons, It.item]
  have hb := run_beginRound (P := P) hL rfl
  exact stepR_beginRound hro hb
theorem RunsI.roundEnd (c : Nat) {m : Nat} (hH : Holds M0 w0 w H) (hro : F.ro = some l) (hi : H[c]? = some (rng G m l eG .busy none)) (h : ∀ w', Holds M0 w0 w' (H.set c (rng G m l eG .ready none)) → Kp [l] w w' → R (.returned (.bool true)) w') : RunsI F [] e w R := by
  obtain ⟨g, ps, x, y, tmps, D, hr, hL, hs, hag⟩ := hH.get c hi
  obtain ⟨h1, h2⟩ := hH.put hi l rfl (rng G m l eG .ready none) rfl (.loop { state := .ready, pending := none, fn := G.f, tmps, params := ps, assign := x, body := y, defers := D }) (fun M hb => ⟨g, ps, x, y, tmps, D, hr, hb, hs, hag⟩)
  intro a ha
  have hb := run_endRound (P := P) none hL
  unfold Runs
  generalize hroE : F.ro = ro at *
  subst hro
  intro c0 cs
  exact ⟨_, _, h _ h1 h2, Steps.one (stepR_round_end rfl rfl hb)⟩
theorem RunsI.endLoop (c : Nat) {m : Nat} {st : LoopState} {pd : Option Nat} (hH : Holds M0 w0 w H) (hB : F.B = G.B) (hi : H[c]? = some (rng G m l eG st pd)) (hst : st ≠ .busy) (todo : List It) (hto : (match pd with | some j => .c j :: k | none => k) = todo) (h : ∀ w', Holds M0 w0 w' (H.set c (rng G m l eG .exhausted pd)) → Kp [l] w w' → RunsI F todo e w' R) : RunsI F (.erf l :: k) e w R := by
  obtain ⟨g, ps, x, y, tmps, D, hr, hL, hs, hag⟩ := hH.get c hi
  obtain ⟨h1, h2⟩ := hH.put hi l rfl (rng G m l eG .exhausted pd) rfl (.loop { state := .exhausted, pending := pd.map (nth G.B), fn := G.f, tmps, params := ps, assign := x, body := y, defers := D }) (fun M hb => ⟨g, ps, x, y, tmps, D, hr, hb, hs, hag⟩)
  intro a ha
  have hb := run_endLoop (P := P) hL hst
  refine Runs.step (fun cs => ?_) (h _ h1 h2 a ha)
  simp only [List.map_cons, It.item]
  have := stepR_endRangeFunc (P := P) (b := base F.f F.ro) (a := a) (k := k.map (It.item F.B)) (cs := cs) hb
  rw [this]
  subst hto
  cases pd <;> simp [It.item, hB]
theorem RetI.takeH (c D : Nat) (hH : Holds M0 w0 w H) (hi : H[c]? = some (dfr D)) (h : ∀ w', Holds M0 w0 w' (H.set c (dead D)) → Kp [D] w w' → RetI F e w' R) : RetI (F.df D) e w R := by
  obtain ⟨h1, h2⟩ := hH.put hi D rfl (dead D) rfl (.deferred none) (fun _ _ => trivial)
  exact RetI.taken D (hH.get c hi) (h _ h1 h2)
end
#print axioms RunsI.rangeFunc
#print axioms RegI.yield
end Go.Eng
