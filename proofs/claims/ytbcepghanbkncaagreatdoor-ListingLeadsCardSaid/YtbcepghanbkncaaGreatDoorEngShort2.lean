/- The shortest words for steps (wip/compact3.py writes them). -/
import Derived.Test.YtbcepghanbkncaaGreatDoorEngShort
set_option linter.unusedVariables false
namespace Go.Eng
open Go.RowKit
abbrev wA (x : Int) : Int := IntKind.wrap .i64 x
abbrev wB (x : Int) : Int := IntKind.wrap .u8 x
abbrev wC (x : Int) : Int := IntKind.wrap .u16 x
abbrev wD (x : Int) : Int := IntKind.wrap .u64 x
abbrev rA : Rp Int := Rp.int .i64
abbrev rB : Rp Int := Rp.int .u8
abbrev rC : Rp Int := Rp.int .u16
abbrev bd (f : Func) : Code := f.body.getD .skip
abbrev fn {P : Program} (i : FuncId) (f : Func) (B : Code) (N : Nat) (hf : P.funcs[i]? = some f) (hb : f.body = some B := by kernel_rfl) (hN : f.ntmps = N := by kernel_rfl) : Fun P := ⟨i, f, B, N, hf, hb, hN, [], none⟩
abbrev pS (M0 : Nat → Prop) (w0 : World) (r : ByteArray) : Ending → World → Prop := fun e w => e = .returned (.string r) ∧ Below w0.heap.size w0 w
abbrev pB (M0 : Nat → Prop) (w0 : World) (r : Bool) : Ending → World → Prop := fun e w => e = .returned (.bool r) ∧ Below w0.heap.size w0 w
abbrev pI (M0 : Nat → Prop) (w0 : World) (r : Int) : Ending → World → Prop := fun e w => e = .returned (.int .i64 r) ∧ Below w0.heap.size w0 w
theorem mines_start {M0 : Nat → Prop} {H : List Chunk} (h : mines H = []) {b : Nat} (hm : Mset M0 H b) : M0 b := hm.elim id (fun hm => by rw [h] at hm; cases hm)
theorem Holds.aS {M0 : Nat → Prop} {w0 : World} {H : List Chunk} {α : Type} {d : Rp α} {v : Value} {xs : List α} (h : Holds M0 w0 w0 H) (hs : Sl d w0 M0 v xs) (hm : mines H = [] := by rfl) : Holds M0 w0 w0 (H ++ [sl d v xs]) := h.addSl d v xs (hs.mono (fun _ _ hb => mines_start hm hb))
theorem Holds.aG {M0 : Nat → Prop} {w0 : World} {H : List Chunk} {g : Nat} {cs : List Value} (h : Holds M0 w0 w0 H) (hG : (gl g cs).ok w0 M0) (hm : mines H = [] := by rfl) : Holds M0 w0 w0 (H ++ [gl g cs]) := h.add (gl g cs) rfl ⟨hG.1, fun hb => hG.2.1 (mines_start hm hb), hG.2.2⟩
theorem sI {α : Type} {a b : α} (h : some a = some b) : a = b := Option.some.inj h
abbrev Xq := @RunsI.q
abbrev Xd := @RunsI.qd
abbrev Yq := @RegI.q
abbrev Yd := @RegI.pd
abbrev Xg := @RunsI.g
abbrev Xr := @RunsI.r
abbrev Xt := @RunsI.t
abbrev Xb := @RunsI.b
abbrev Yp := @RegI.p
abbrev Ye := @RegI.d
abbrev Yf := @RegI.f
abbrev Yo := @RegI.o
abbrev Wu := @AnyE.u
abbrev Wt := @AnyE.ct
abbrev Wa := @AnyE.lB
abbrev Wc := @AnyE.cl
section
variable {P : Program} {F : Fun P} {k : List It} {e : Env} {w w0 : World} {R : Ending → World → Prop} {n i : Nat} {M0 : Nat → Prop} {H : List Chunk}
theorem Ya (d c : Nat) (T : TypeId) (b o : Nat) (v : Value) {t : TypeId} {cs : List Value} (hH : Holds M0 w0 w H) (hi : H[c]? = some (Eng.box b t cs)) (hn : RegI F n k (i + 1) ((d, v) :: e) w R) (hlt : Nat.blt i (opsOf F.B n).size = true := by kernel_rfl)
    (ho : opOk F n i e d = true := by kernel_rfl) (hl : loadOf F n i e = some (T, ⟨b, o, none⟩) := by kernel_rfl) (hv : loadV P T (cs.drop o) = some v := by kernel_rfl) : RegI F n k i e w R := RegI.op hlt (OpE.loadBox d c T b o v hH ho hl hi hv hn)
theorem Yz (d c : Nat) (T : TypeId) (b o q : Nat) (v : Value) {cs : List Value} (hH : Holds M0 w0 w H) (hi : H[c]? = some (cel b o cs)) (hn : RegI F n k (i + 1) ((d, v) :: e) w R) (hlt : Nat.blt i (opsOf F.B n).size = true := by kernel_rfl)
    (ho : opOk F n i e d = true := by kernel_rfl) (hl : loadOf F n i e = some (T, ⟨b, o + q, none⟩) := by kernel_rfl) (hv : loadV P T (cs.drop q) = some v := by kernel_rfl) : RegI F n k i e w R := RegI.op hlt (OpE.loadCel d c T b o q v hH ho hl hi hv hn)
theorem Yb (c : Nat) (T : TypeId) (b o : Nat) (v : Value) {t : TypeId} {cs : List Value} (cs' : List Value) (hH : Holds M0 w0 w H) (hi : H[c]? = some (Eng.box b t cs)) (hn : ∀ w', Holds M0 w0 w' (H.set c (Eng.box b t cs')) → Kp [b] w w' → RegI F n k (i + 1) e w' R)
    (hlt : Nat.blt i (opsOf F.B n).size = true := by kernel_rfl) (ho : opOk0 F n i e = true := by kernel_rfl) (hl : storeOf F n i e = some (T, ⟨b, o, none⟩, v) := by kernel_rfl) (hf : fitsV P T v = true := by kernel_rfl) (hle : Nat.ble (o + v.cells.size) cs.length = true := by kernel_rfl)
    (hcs : cs.take o ++ v.cells.toList ++ cs.drop (o + v.cells.size) = cs' := by kernel_rfl) : RegI F n k i e w R := RegI.op hlt (OpE.storeBox c T b o v cs' hH ho hl hi hf hle hcs hn)
theorem Yx (d : Nat) (t : TypeId) (cs : List Value) (hH : Holds M0 w0 w H) (hn : ∀ w' b, Holds M0 w0 w' (H ++ [Eng.box b t cs]) → Below w.heap.size w w' → w.heap.size ≤ b → RegI F n k (i + 1) ((d, .pointer (some ⟨b, 0, none⟩)) :: e) w' R)
    (hlt : Nat.blt i (opsOf F.B n).size = true := by kernel_rfl) (ho : opOk F n i e d = true := by kernel_rfl) (hb : boxOf F n i e = some (t, cs) := by kernel_rfl) : RegI F n k i e w R := RegI.op hlt (OpE.box d t cs hH ho hb hn)
theorem Yc (d : Nat) (g : FuncId) (args : Array Value) (h : Calls P g args w (cont (fun e' w' => RegI F n k (i + 1) e' w' R) d e)) (hlt : Nat.blt i (opsOf F.B n).size = true := by kernel_rfl) (ho : opOk F n i e d = true := by kernel_rfl)
    (hr : (execOp e.eval (opOf F.B n i)).run P w = .ok (.enter g args) w := by kernel_rfl) : RegI F n k i e w R := RegI.op hlt (OpE.call d ho g args hr h)
theorem Yt (d : Nat) (a b : ByteArray) (h : mayCat a.size b.size = true) (hn : RegI F n k (i + 1) ((d, .string (a ++ b)) :: e) w R) (hlt : Nat.blt i (opsOf F.B n).size = true := by kernel_rfl) (ho : opOk F n i e d = true := by kernel_rfl)
    (hx : catOf F n i e = some (a, b) := by kernel_rfl) : RegI F n k i e w R := RegI.op hlt (OpE.run d ho (run_cat hx h) hn)
theorem Zp (m : Nat) (live : List Nat) (nw : Env) (hn : RegI F n k (i + m) ((nw ++ e).only live) w R) (h : evalKeep P F.N (opsOf F.B n) (((opsOf F.B n).toList.drop i).take m) e w live = some ((nw ++ e).only live, w) := by kernel_rfl) : RegI F n k i e w R := RegI.pure m live _ h hn
theorem Zd (m : Nat) (live : List Nat) (nw : Env) (hn : RunsI F k ((nw ++ e).only live) w R) (h : evalKeep P F.N (opsOf F.B n) (((opsOf F.B n).toList.drop i).take m) e w live = some ((nw ++ e).only live, w) := by kernel_rfl) (hd : Nat.ble (opsOf F.B n).size (i + m) = true := by kernel_rfl) : RegI F n k i e w R := RegI.pure m live _ h (RegI.done hd hn)
theorem Zq {todo : List It} (m n' : Nat) (k' : List It) (m2 : Nat) (live : List Nat) (nw : Env) (hn : RegI F n' k' (0 + m2) ((nw ++ e).only live) w R) (h : goIt F.B m todo = some (.c n' :: k') := by kernel_rfl) (h2 : isRegion F.B n' false = true := by kernel_rfl)
    (h3 : evalKeep P F.N (opsOf F.B n') (((opsOf F.B n').toList.drop 0).take m2) e w live = some ((nw ++ e).only live, w) := by kernel_rfl) : RunsI F todo e w R := RunsI.go m _ h (RunsI.region h2 (RegI.pure m2 live _ h3 hn))
theorem Ze {todo : List It} (m n' : Nat) (k' : List It) (m2 : Nat) (live : List Nat) (nw : Env) (hn : RunsI F k' ((nw ++ e).only live) w R) (h : goIt F.B m todo = some (.c n' :: k') := by kernel_rfl) (h2 : isRegion F.B n' false = true := by kernel_rfl)
    (h3 : evalKeep P F.N (opsOf F.B n') (((opsOf F.B n').toList.drop 0).take m2) e w live = some ((nw ++ e).only live, w) := by kernel_rfl) (hd : Nat.ble (opsOf F.B n').size (0 + m2) = true := by kernel_rfl) : RunsI F todo e w R := RunsI.go m _ h (RunsI.region h2 (RegI.pure m2 live _ h3 (RegI.done hd hn)))
theorem Zy (m n' : Nat) (k' : List It) (m2 : Nat) (live : List Nat) (nw : Env) (hn : RegI F n' k' (0 + m2) ((nw ++ e).only live) w R) (hd : Nat.ble (opsOf F.B n).size i = true := by kernel_rfl) (h : goIt F.B m k = some (.c n' :: k') := by kernel_rfl) (h2 : isRegion F.B n' false = true := by kernel_rfl)
    (h3 : evalKeep P F.N (opsOf F.B n') (((opsOf F.B n').toList.drop 0).take m2) e w live = some ((nw ++ e).only live, w) := by kernel_rfl) : RegI F n k i e w R := RegI.done hd (RunsI.go m _ h (RunsI.region h2 (RegI.pure m2 live _ h3 hn)))
theorem Vl {todo : List It} (e' : Env) (hn : RunsI F todo e' w R) (hl : (e'.map Prod.fst).all e.has = true := by kernel_rfl) (he : e.only (e'.map Prod.fst) = e' := by kernel_rfl) : RunsI F todo e w R := RunsI.only _ e' hl he hn
theorem Ul (e' : Env) (hn : RegI F n k i e' w R) (hl : (e'.map Prod.fst).all e.has = true := by kernel_rfl) (he : e.only (e'.map Prod.fst) = e' := by kernel_rfl) : RegI F n k i e w R := RegI.only _ e' hl he hn
theorem Vc {todo : List It} {α : Type} {c : Bool} {A B : Option α} {r : α} (t a b : Nat) (h : cond c A B = some r) (h1 : c = true → A = some r → RunsI F (.c a :: todo) ((t, .bool true) :: e) w R) (h2 : c = false → B = some r → RunsI F (.c b :: todo) ((t, .bool false) :: e) w R)
    (hh : e.has t = true := by kernel_rfl) (hv : e.get t = .bool c := by kernel_rfl) (g1 : condOk F.B n ((t, .bool true) :: e) true = some a := by kernel_rfl) (g2 : condOk F.B n ((t, .bool false) :: e) false = some b := by kernel_rfl) : RunsI F (.c n :: todo) e w R := by
  cases c with
  | true => exact RunsI.fix t true rfl hh hv (RunsI.cond true a g1 (h1 rfl h))
  | false => exact RunsI.fix t false rfl hh hv (RunsI.cond false b g2 (h2 rfl h))
end
abbrev tS (s : ByteArray) : Value := .string s
abbrev tB (b : Bool) : Value := .bool b
abbrev sV {α : Type} (A : Option Addr) (xs : List α) (c : Nat) : Value := .slice A xs.length c
abbrev sD (xs : List Int) (i j : Int) : List Int := stD (stD xs i (rdD xs j)) j (rdD xs i)
abbrev n0 : Value := .slice none 0 0
theorem oz {α : Type} {c : Bool} {A : Option α} {r : α} (h : cond c A none = some r) : c = true ∧ A = some r := of_cond0 h
theorem oc {α : Type} {c : Bool} {A B : Option α} {r : α} (h : cond c A B = some r) : (c = true ∧ A = some r) ∨ (c = false ∧ B = some r) := of_cond h
theorem Holds.pk {M0 : Nat → Prop} {w0 w : World} {H : List Chunk} (h : Holds M0 w0 w H) (is : List Nat) (hd : is.Nodup := by decide) : Holds M0 w0 w (Eng.pick H is) := h.pick is hd
end Go.Eng
