/- The engine's further operations: calls entered with fewer slots, results in cells, structs compared, rows of the call's own read and written, made rows, texts of bytes. -/
import Derived.Test.YtbcepghanbkncaaDoorEngAny
import Derived.Laws.StructEq
import Derived.Laws.BytesString
import Derived.Laws.MakeOwn
import Derived.Laws.OwnMore
set_option linter.unusedVariables false
set_option linter.unusedSimpArgs false
namespace Go.Eng
open Go.RowKit

section
variable {P : Program} {F : Fun P} {k : List It} {e e' : Env} {w w' w0 : World} {R : Ending → World → Prop} {n i : Nat} {M0 : Nat → Prop} {H : List Chunk} {K : Env → World → Prop}
/-! ### A call that is entered, with the slots that are wanted behind it -/
theorem Env.under {N d : Nat} {ds : List Nat} {v : Value} {e e' : Env} {live : List Nat} (hl : live.all e.has = true) (he : e.only live = e') {a : Act} (ha : Agree N ds ((d, v) :: e) a) : Agree N ds ((d, v) :: e') a := by
  subst he
  refine ha.mono fun t ht => ?_
  simp only [Env.has, Env.get] at ht ⊢
  cases hb : Nat.beq d t with
  | true => exact ⟨rfl, rfl⟩
  | false =>
    simp only [hb, cond_false] at ht ⊢
    exact Env.only_has e live (fun t ht => List.all_eq_true.1 hl t ht) t ht
theorem RegI.enter (d : Nat) (live : List Nat) (e' : Env) (hlt : Nat.blt i (opsOf F.B n).size = true) (ho : opOk F n i e d = true) (hl : live.all e.has = true) (he : e.only live = e') (G : Fun P) (g : FuncId) (hg : G.f = g) (args : List Value)
    (hle : Nat.ble args.length G.N = true) (hr : (execOp e.eval (opOf F.B n i)).run P w = .ok (.enter g args.toArray) w)
    (h : RunsI G [.c 0] (argEnv 0 args) w (cont (fun e' w' => RegI F n k (i + 1) e' w' R) d e')) (hro : G.ro = none := by rfl) (hds : G.ds = [] := by rfl) : RegI F n k i e w R :=
  RegI.op hlt (OpE.call d ho g args.toArray hr ((calls_of G hg args hle h hro hds).mono fun _ _ ⟨v, hv, hk⟩ => ⟨v, hv, fun a ha => hk a (Env.under hl he ha)⟩))
theorem RegI.enter0 (live : List Nat) (e' : Env) (hlt : Nat.blt i (opsOf F.B n).size = true) (ho : opOk0 F n i e = true) (hl : live.all e.has = true) (he : e.only live = e') (G : Fun P) (g : FuncId) (hg : G.f = g) (args : List Value)
    (hle : Nat.ble args.length G.N = true) (hr : (execOp e.eval (opOf F.B n i)).run P w = .ok (.enter g args.toArray) w)
    (h : RunsI G [.c 0] (argEnv 0 args) w (cont0 (fun e' w' => RegI F n k (i + 1) e' w' R) e')) (hro : G.ro = none := by rfl) (hds : G.ds = [] := by rfl) : RegI F n k i e w R :=
  RegI.op hlt (OpE.call0 ho g args.toArray hr ((calls_of G hg args hle h hro hds).mono fun _ _ ⟨v, hv, hk⟩ => ⟨v, hv, RegI.only live e' hl he hk⟩))

/-! ### Results in slots and in cells -/
def ResAt (P : Program) (w : World) (e : Env) : List ResultVar → List Value → Prop
  | [], vs => vs = []
  | .tmp t :: rs, vs => e.has t = true ∧ ∃ r, vs = e.get t :: r ∧ ResAt P w e rs r
  | .cell t T :: rs, vs => e.has t = true ∧ ∃ a v r, e.get t = .pointer (some a) ∧ (loadVar T a).run P w = .ok v w ∧ vs = v :: r ∧ ResAt P w e rs r
theorem res_run {N : Nat} {ds : List Nat} {a : Act} (ha : Agree N ds e a) : ∀ {rs : List ResultVar} {vs : List Value}, ResAt P w e rs vs →
    (rs.mapM (m := Sem) fun
      | .tmp t => pure (a.tmps.getD t undef)
      | .cell a' t => do loadVar t (← asAddr (a.tmps.getD a' undef))).run P w = .ok vs w
  | [], vs, h => by rw [show vs = [] from h]; rfl
  | .tmp t :: rs, vs, ⟨hh, r, hv, h⟩ => by
    subst hv
    have ih := res_run ha h
    have := ha.slots t hh
    simp only [List.mapM_cons, Sem.run_bind, Sem.run_pure, Result.andThen_ok]
    rw [ih]
    simp at this
    simp [this]
  | .cell t T :: rs, vs, ⟨hh, ad, v, r, hp, hl, hv, h⟩ => by
    subst hv
    have ih := res_run ha h
    have := ha.slots t hh
    rw [hp] at this
    have hA : (asAddr (a.tmps.getD t undef)).run P w = .ok ad w := by
      simp at this
      simp [this, asAddr]
    simp only [List.mapM_cons, Sem.run_bind, hA, Result.andThen_ok, hl]
    rw [ih]
    rfl
def packE : List Value → Value
  | [v] => v
  | vs => .tuple vs.toArray
theorem RetI.valW (rs : List ResultVar) (vs : List Value) (v : Value) (hres : F.fn.results = rs.toArray) (h : ResAt P w e rs vs) (hv : packE vs = v) (hR : R (.returned v) w) (hds : F.ds = [] := by rfl) : RetI F e w R := by
  refine RetI.done v (fun a ha => ?_) hR hds
  have := res_run ha h
  subst hv
  unfold results
  rw [hres]
  simp only [List.mapM_toArray, Sem.run_bind, Sem.run_map]
  refine (congrArg (fun (r : Result (List Value)) => (r.andThen fun a w' => Result.ok a.toArray w').andThen fun a w' => Sem.run P (pure (if h : a.size = 1 then a[0] else Value.tuple a)) w') this).trans ?_
  match vs with
  | [] => rfl
  | [x] => rfl
  | x :: y :: r => simp [packE, Result.andThen]
theorem RunsI.retW {todo : List It} (rs : List ResultVar) (vs : List Value) (v : Value) (hr : isRet F.B todo = true) (hres : F.fn.results = rs.toArray) (h : ResAt P w e rs vs) (hv : packE vs = v) (hR : R (.returned v) w) (hro : F.ro = none := by rfl) (hds : F.ds = [] := by rfl) : RunsI F todo e w R :=
  RunsI.toRet hr (RetI.valW rs vs v hres h hv hR hds) hro
theorem ResAt.tmp {t : Nat} {rs : List ResultVar} {r : List Value} {v : Value} (hh : e.has t = true) (hv : e.get t = v) (h : ResAt P w e rs r) : ResAt P w e (.tmp t :: rs) (v :: r) := ⟨hh, r, by rw [hv], h⟩
theorem ResAt.box (c : Nat) (T : TypeId) (b o : Nat) {t t' : Nat} {cs : List Value} {rs : List ResultVar} {r : List Value} {v : Value} (hH : Holds M0 w0 w H) (hh : e.has t = true) (hp : e.get t = .pointer (some ⟨b, o, none⟩)) (hi : H[c]? = some (Eng.box b t' cs))
    (hv : loadV P T (cs.drop o) = some v) (h : ResAt P w e rs r) : ResAt P w e (.cell t T :: rs) (v :: r) :=
  ⟨hh, _, v, r, hp, run_loadV (box_cells (hH.get c hi) o) hv, rfl, h⟩
end

/-! ### Structs compared -/
def eqOf {P : Program} (F : Fun P) (n i : Nat) (e : Env) : Option (Bool × TypeId × Value × Value) :=
  match (opOf F.B n i).op with
  | .binOp .eql t x y _ => some (false, t, e.eval x, e.eval y)
  | .binOp .neq t x y _ => some (true, t, e.eval x, e.eval y)
  | _ => none
def partV (P : Program) (t : TypeId) (cs : Array Value) (off : Nat) : Option Value :=
  match P.underlying t with
  | some (.struct _) => (P.info? t).map fun i => .agg (cs.extract off (off + i.size))
  | some (.array _ _) => none
  | some _ => cs[off]?
  | none => none
theorem run_partV {P : Program} {w : World} {t : TypeId} {cs : Array Value} {off : Nat} {v : Value} (h : partV P t cs off = some v) : (part t cs off).run P w = .ok v w := by
  unfold partV at h
  cases hu : P.underlying t with
  | none => simp [hu] at h
  | some d =>
    have hr := run_underlying (P := P) hu w
    cases d <;> simp only [hu] at h <;> first | (cases h; done) | skip
    case struct fs =>
      cases hi : P.info? t with
      | none => simp [hi] at h
      | some inf =>
        simp only [hi, Option.map_some, Option.some.injEq] at h
        subst h
        simp [part, isAgg, hr, sizeOf, typeInfo, hi]
    all_goals simp [part, isAgg, hr, h]
def eqList (P : Program) (g : TypeId → Value → Value → Option Bool) (xs ys : Array Value) : List Field → Option Bool
  | [] => some true
  | f :: fs =>
    match decide (f.name ≠ "_"), partV P f.type xs f.offset, partV P f.type ys f.offset with
    | true, some a, some b =>
      (match g f.type a b, eqList P g xs ys fs with
       | some p, some q => some (p && q)
       | _, _ => none)
    | _, _, _ => none
def eqFlat (P : Program) : Nat → TypeId → Value → Value → Option Bool
  | 0, _, _, _ => none
  | m + 1, t, x, y =>
    match P.underlying t, x, y with
    | some (.struct _), .agg xs, .agg ys => cond (P.stoodInHeld t) none (eqList P (eqFlat P m) xs ys (P.fieldsOf t).toList)
    | some (.int _), .int k a, .int k' b => cond (decide (k = k')) (some (a == b)) none
    | some .bool, .bool a, .bool b => some (a == b)
    | some .string, .string a, .string b => some (a.toList == b.toList)
    | _, _, _ => none
theorem run_eqList {P : Program} {w : World} {g : TypeId → Value → Value → Option Bool} (d : Nat) (hg : ∀ t x y b, g t x y = some b → (Op.equalIn d t x y).run P w = .ok b w) {xs ys : Array Value} :
    ∀ (fs : List Field) {b : Bool}, eqList P g xs ys fs = some b → (Op.eqFields d xs ys fs).run P w = .ok b w
  | [], b, h => by
    cases h
    simp [Op.eqFields]
  | f :: fs, b, h => by
    unfold eqList at h
    split at h
    · rename_i a b' hn ha hb
      split at h
      · rename_i p q hp hq
        cases h
        have h1 := hg _ _ _ _ hp
        have h2 := run_eqList (w := w) d hg fs hq
        have hnm := of_decide_eq_true hn
        simp only [Op.eqFields, if_pos hnm, Sem.run_bind, run_partV ha, run_partV hb, Result.andThen_ok, h1]
        cases p
        · simp
        · simp [h2]
      · cases h
    · cases h
theorem run_eqFlat {P : Program} {w : World} : ∀ (m : Nat) {t : TypeId} {x y : Value} {b : Bool} (d : Nat), m ≤ d → eqFlat P m t x y = some b → (Op.equalIn d t x y).run P w = .ok b w
  | 0, _, _, _, _, _, _, h => by simp [eqFlat] at h
  | m + 1, t, x, y, b, d, hd, h => by
    obtain ⟨d, rfl⟩ : ∃ d', d = d' + 1 := ⟨d - 1, by omega⟩
    unfold eqFlat at h
    split at h
    · rename_i fs xs ys hu
      cases hs : P.stoodInHeld t with
      | true => simp [hs] at h
      | false =>
        simp only [hs, cond_false] at h
        have hf : P.underlying t = some (.struct (P.fieldsOf t)) := by rw [hu]; simp [Program.fieldsOf, hu]
        rw [run_equalIn_struct w d t xs ys hf hs]
        exact run_eqList d (fun t x y b hb => run_eqFlat m d (by omega) hb) _ h
    · rename_i k k1 a k2 b' hu
      by_cases hk : k1 = k2
      · subst hk
        simp only [decide_true, cond_true, Option.some.injEq] at h
        subst h
        exact run_equalIn_int w d t k1 k a b' hu
      · simp [hk] at h
    · rename_i a b' hu
      cases h
      exact run_equalIn_bool w d t a b' hu
    · rename_i a b' hu
      cases h
      exact run_equalIn_string w d t a b' hu
    · cases h
theorem run_eqS {P : Program} {F : Fun P} {n i : Nat} {e : Env} {w : World} {neg : Bool} {t : TypeId} {x y : Value} {b : Bool} (hx : eqOf F n i e = some (neg, t, x, y)) (hg : P.eqGuardType P.depth t = false)
    (ha : (match x, y with | .agg _, .agg _ => true | _, _ => false) = true) (hf : eqFlat P 16 t x y = some b) : (execOp e.eval (opOf F.B n i)).run P w = .ok (.value (.bool (cond neg (!b) b))) w := by
  cases x <;> cases y <;> simp at ha
  rename_i xs ys
  have h := run_eqFlat (w := w) 16 10000 (by omega) hf
  unfold eqOf at hx
  split at hx
  · rename_i t' x' y' p hop
    simp only [Option.some.injEq, Prod.mk.injEq] at hx
    obtain ⟨rfl, rfl, hx1, hy1⟩ := hx
    have h2 := run_eqGuard_agg (P := P) w .eql t' x' y' xs ys hg
    have h3 := run_eql_struct (P := P) w t' xs ys
    unfold execOp
    simp [hop, hx1, hy1, h2, h3, h]
  · rename_i t' x' y' p hop
    simp only [Option.some.injEq, Prod.mk.injEq] at hx
    obtain ⟨rfl, rfl, hx1, hy1⟩ := hx
    have h2 := run_eqGuard_agg (P := P) w .neq t' x' y' xs ys hg
    have h3 := run_neq_struct (P := P) w t' xs ys
    unfold execOp
    simp [hop, hx1, hy1, h2, h3, h]
  · cases hx

/-! ### Numbers by numbers that are variables -/
def binOf {P : Program} (F : Fun P) (n i : Nat) (e : Env) : Option (BinOp × IntKind × Int × IntKind × Int) :=
  match (opOf F.B n i).op with
  | .binOp op t x y _ => (match e.eval x, e.eval y with | .int k a, .int k' b => some (op, k, a, k', b) | _, _ => none)
  | _ => none
section
variable {P : Program} {F : Fun P} {n i : Nat} {e : Env} {w : World} {k k' : IntKind} {a b : Int}
theorem run_quo (hx : binOf F n i e = some (.quo, k, a, k, b)) (h : (b != 0) = true) : (execOp e.eval (opOf F.B n i)).run P w = .ok (.value (.int k (k.wrap (a.tdiv b)))) w := by
  unfold binOf at hx
  split at hx <;> first | (cases hx; done) | skip
  rename_i op t x y p hop
  split at hx <;> first | (cases hx; done) | skip
  rename_i k1 a1 k2 b1 h1 h2
  simp only [Option.some.injEq, Prod.mk.injEq] at hx
  obtain ⟨rfl, rfl, rfl, rfl, rfl⟩ := hx
  have hb : b1 ≠ 0 := by simpa using h
  unfold execOp
  simp [hop, h1, h2, eqGuard, binOp, Op.intDiv, hb]
theorem run_rem (hx : binOf F n i e = some (.rem, k, a, k, b)) (h : (b != 0) = true) : (execOp e.eval (opOf F.B n i)).run P w = .ok (.value (.int k (a.tmod b))) w := by
  unfold binOf at hx
  split at hx <;> first | (cases hx; done) | skip
  rename_i op t x y p hop
  split at hx <;> first | (cases hx; done) | skip
  rename_i k1 a1 k2 b1 h1 h2
  simp only [Option.some.injEq, Prod.mk.injEq] at hx
  obtain ⟨rfl, rfl, rfl, rfl, rfl⟩ := hx
  have hb : b1 ≠ 0 := by simpa using h
  unfold execOp
  simp [hop, h1, h2, eqGuard, binOp, Op.intDiv, hb]
theorem run_shl (hx : binOf F n i e = some (.shl, k, a, k', b)) (h : decide (0 ≤ b) = true) : (execOp e.eval (opOf F.B n i)).run P w = .ok (.value (.int k (k.wrap (a * 2 ^ min b.toNat k.bits)))) w := by
  unfold binOf at hx
  split at hx <;> first | (cases hx; done) | skip
  rename_i op t x y p hop
  split at hx <;> first | (cases hx; done) | skip
  rename_i k1 a1 k2 b1 h1 h2
  simp only [Option.some.injEq, Prod.mk.injEq] at hx
  obtain ⟨rfl, rfl, rfl, rfl, rfl⟩ := hx
  have hb : ¬ b1 < 0 := by have := of_decide_eq_true h; omega
  unfold execOp
  simp [hop, h1, h2, eqGuard, binOp, Op.shift, hb]
theorem run_shr (hx : binOf F n i e = some (.shr, k, a, k', b)) (h : decide (0 ≤ b) = true) : (execOp e.eval (opOf F.B n i)).run P w = .ok (.value (.int k (a.fdiv (2 ^ min b.toNat k.bits)))) w := by
  unfold binOf at hx
  split at hx <;> first | (cases hx; done) | skip
  rename_i op t x y p hop
  split at hx <;> first | (cases hx; done) | skip
  rename_i k1 a1 k2 b1 h1 h2
  simp only [Option.some.injEq, Prod.mk.injEq] at hx
  obtain ⟨rfl, rfl, rfl, rfl, rfl⟩ := hx
  have hb : ¬ b1 < 0 := by have := of_decide_eq_true h; omega
  unfold execOp
  simp [hop, h1, h2, eqGuard, binOp, Op.shift, hb]
end
end Go.Eng
