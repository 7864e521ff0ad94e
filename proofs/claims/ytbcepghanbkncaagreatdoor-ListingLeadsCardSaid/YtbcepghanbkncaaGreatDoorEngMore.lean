/- The engine's further operations: calls entered with fewer slots, results in cells, structs compared, rows of the call's own read and written, made rows, texts of bytes. -/
import Derived.Test.YtbcepghanbkncaaGreatDoorEngAny
import Derived.Laws.StructEq
import Derived.Laws.BytesString
import Derived.Laws.MakeOwn
import Derived.Laws.OwnMore
set_option linter.unusedVariables false
set_option linter.unusedSimpArgs false
namespace Go.Eng
open Go.RowKit

section
variable {P : Program} {F : Fun P} {k : List It} {e e' : Env} {w w' w0 : World} {R : Ending → World → Prop} {n i : Nat} {M0 : Nat → Prop} {H : List Chunk} {K : Env → World → Prop}
theorem Env.under {N d : Nat} {ds : List Nat} {v : Value} {e e' : Env} {live : List Nat} (hl : live.all e.has = true) (he : e.only live = e') {a : Act} (ha : Agree N ds ((d, v) :: e) a) : Agree N ds ((d, v) :: e') a := by
  subst he
  refine ha.mono fun t ht => ?_
  simp only [Env.has, Env.get] at ht ⊢
  cases hb : Nat.beq d t with
  | true => exact ⟨rfl, rfl⟩
  | false =>
    simp only [hb, cond_false] at ht ⊢
    exact Env.only_has e live (fun t ht => List.all_eq_true.1 hl t ht) t ht
theorem RegI.enter (d : Nat) (live : List Nat) (e' : Env) (hlt : Nat.blt i (opsOf F.B n).size = true) (ho : opOk F n i e d = true) (hl : live.all e.has = true) (he : e.only live = e') (G : Fun P) (g : FuncId) (hg : G.f = g) (args : List Value)
    (hle : Nat.ble args.length G.N = true) (hr : (execOp e.eval (opOf F.B n i)).run P w = .ok (.enter g args.toArray) w)
    (h : RunsI G [.c 0] (argEnv 0 args) w (cont (fun e' w' => RegI F n k (i + 1) e' w' R) d e')) (hro : G.ro = none := by rfl) (hds : G.ds = [] := by rfl) : RegI F n k i e w R :=
  RegI.op hlt (OpE.call d ho g args.toArray hr ((calls_of G hg args hle h hro hds).mono fun _ _ ⟨v, hv, hk⟩ => ⟨v, hv, fun a ha => hk a (Env.under hl he ha)⟩))
def ResAt (P : Program) (w : World) (e : Env) : List ResultVar → List Value → Prop
  | [], vs => vs = []
  | .tmp t :: rs, vs => e.has t = true ∧ ∃ r, vs = e.get t :: r ∧ ResAt P w e rs r
  | .cell t T :: rs, vs => e.has t = true ∧ ∃ a v r, e.get t = .pointer (some a) ∧ (loadVar T a).run P w = .ok v w ∧ vs = v :: r ∧ ResAt P w e rs r
theorem res_run {N : Nat} {ds : List Nat} {a : Act} (ha : Agree N ds e a) : ∀ {rs : List ResultVar} {vs : List Value}, ResAt P w e rs vs →
    (rs.mapM (m := Sem) fun
      | .tmp t => pure (a.tmps.getD t undef)
      | .cell a' t => do loadVar t (← asAddr (a.tmps.getD a' undef))).run P w = .ok vs w
  | [], vs, h => by rw [show vs = [] from h]; rfl
  | .tmp t :: rs, vs, ⟨hh, r, hv, h⟩ => by
    subst hv
    have ih := res_run ha h
    have := ha.slots t hh
    simp only [List.mapM_cons, Sem.run_bind, Sem.run_pure, Result.andThen_ok]
    rw [ih]
    simp at this
    simp [this]
  | .cell t T :: rs, vs, ⟨hh, ad, v, r, hp, hl, hv, h⟩ => by
    subst hv
    have ih := res_run ha h
    have := ha.slots t hh
    rw [hp] at this
    have hA : (asAddr (a.tmps.getD t undef)).run P w = .ok ad w := by
      simp at this
      simp [this, asAddr]
    simp only [List.mapM_cons, Sem.run_bind, hA, Result.andThen_ok, hl]
    rw [ih]
    rfl
def packE : List Value → Value
  | [v] => v
  | vs => .tuple vs.toArray
theorem RetI.valW (rs : List ResultVar) (vs : List Value) (v : Value) (hres : F.fn.results = rs.toArray) (h : ResAt P w e rs vs) (hv : packE vs = v) (hR : R (.returned v) w) (hds : F.ds = [] := by rfl) : RetI F e w R := by
  refine RetI.done v (fun a ha => ?_) hR hds
  have := res_run ha h
  subst hv
  unfold results
  rw [hres]
  simp only [List.mapM_toArray, Sem.run_bind, Sem.run_map]
  refine (congrArg (fun (r : Result (List Value)) => (r.andThen fun a w' => Result.ok a.toArray w').andThen fun a w' => Sem.run P (pure (if h : a.size = 1 then a[0] else Value.tuple a)) w') this).trans ?_
  match vs with
  | [] => rfl
  | [x] => rfl
  | x :: y :: r => simp [packE, Result.andThen]
theorem ResAt.tmp {t : Nat} {rs : List ResultVar} {r : List Value} {v : Value} (hh : e.has t = true) (hv : e.get t = v) (h : ResAt P w e rs r) : ResAt P w e (.tmp t :: rs) (v :: r) := ⟨hh, r, by rw [hv], h⟩
theorem ResAt.box (c : Nat) (T : TypeId) (b o : Nat) {t t' : Nat} {cs : List Value} {rs : List ResultVar} {r : List Value} {v : Value} (hH : Holds M0 w0 w H) (hh : e.has t = true) (hp : e.get t = .pointer (some ⟨b, o, none⟩)) (hi : H[c]? = some (Eng.box b t' cs))
    (hv : loadV P T (cs.drop o) = some v) (h : ResAt P w e rs r) : ResAt P w e (.cell t T :: rs) (v :: r) :=
  ⟨hh, _, v, r, hp, run_loadV (box_cells (hH.get c hi) o) hv, rfl, h⟩
end

def eqOf {P : Program} (F : Fun P) (n i : Nat) (e : Env) : Option (Bool × TypeId × Value × Value) :=
  match (opOf F.B n i).op with
  | .binOp .eql t x y _ => some (false, t, e.eval x, e.eval y)
  | .binOp .neq t x y _ => some (true, t, e.eval x, e.eval y)
  | _ => none
def binOf {P : Program} (F : Fun P) (n i : Nat) (e : Env) : Option (BinOp × IntKind × Int × IntKind × Int) :=
  match (opOf F.B n i).op with
  | .binOp op t x y _ => (match e.eval x, e.eval y with | .int k a, .int k' b => some (op, k, a, k', b) | _, _ => none)
  | _ => none
section
variable {P : Program} {F : Fun P} {n i : Nat} {e : Env} {w : World} {k k' : IntKind} {a b : Int}
theorem run_shl (hx : binOf F n i e = some (.shl, k, a, k', b)) (h : decide (0 ≤ b) = true) : (execOp e.eval (opOf F.B n i)).run P w = .ok (.value (.int k (k.wrap (a * 2 ^ min b.toNat k.bits)))) w := by
  unfold binOf at hx
  split at hx <;> first | (cases hx; done) | skip
  rename_i op t x y p hop
  split at hx <;> first | (cases hx; done) | skip
  rename_i k1 a1 k2 b1 h1 h2
  simp only [Option.some.injEq, Prod.mk.injEq] at hx
  obtain ⟨rfl, rfl, rfl, rfl, rfl⟩ := hx
  have hb : ¬ b1 < 0 := by have := of_decide_eq_true h; omega
  unfold execOp
  simp [hop, h1, h2, eqGuard, binOp, Op.shift, hb]
end
end Go.Eng
