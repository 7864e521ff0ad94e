/- Steps in still shorter words, for long told texts (wip/compact2.py writes them). -/
import Derived.Test.YtbcepghanbkncaaGreatDoorEngStr
set_option linter.unusedVariables false
namespace Go.Eng
open Go.RowKit
abbrev pt (b : Nat) : Value := .pointer (some ⟨b, 0, none⟩)
abbrev pu (b o : Nat) : Value := .pointer (some ⟨b, o, none⟩)
abbrev iA (x : Int) : Value := .int .i64 x
abbrev iB (x : Int) : Value := .int .u8 x
abbrev iC (x : Int) : Value := .int .u16 x
abbrev iD (x : Int) : Value := .int .u64 x
theorem nF {n : Nat} : ∀ b : Nat, (fun _ : Nat => False) b → b < n := fun _ h => h.elim
theorem gF {g : Nat} {cs : List Value} {w : World} {M : Nat → Prop} (h : (gl g cs).ok w M) : (gl g cs).ok w (fun _ => False) := ⟨h.1, fun hf => hf.elim, h.2.2⟩
section
variable {P : Program} {F : Fun P} {k k' todo todo' : List It} {e e1 : Env} {w ws w0 : World} {R : Ending → World → Prop} {n n' i m : Nat} {l : List Nat} {M0 : Nat → Prop} {H : List Chunk} {T : List Nat} {K : Env → World → Prop}
theorem RunsI.q (m n' : Nat) (k' : List It) (m2 : Nat) (e' : Env) (hn : RegI F n' k' (0 + m2) e' w R) (h : goIt F.B m todo = some (.c n' :: k') := by kernel_rfl) (h2 : isRegion F.B n' false = true := by kernel_rfl)
    (h3 : evalKeep P F.N (opsOf F.B n') (((opsOf F.B n').toList.drop 0).take m2) e w (e'.map Prod.fst) = some (e', w) := by kernel_rfl) : RunsI F todo e w R := RunsI.go m _ h (RunsI.region h2 (RegI.pure m2 _ e' h3 hn))
theorem RegI.q (m n' : Nat) (k' : List It) (m2 : Nat) (e' : Env) (hn : RegI F n' k' (0 + m2) e' w R) (hd : Nat.ble (opsOf F.B n).size i = true := by kernel_rfl) (h : goIt F.B m k = some (.c n' :: k') := by kernel_rfl) (h2 : isRegion F.B n' false = true := by kernel_rfl)
    (h3 : evalKeep P F.N (opsOf F.B n') (((opsOf F.B n').toList.drop 0).take m2) e w (e'.map Prod.fst) = some (e', w) := by kernel_rfl) : RegI F n k i e w R := RegI.done hd (RunsI.go m _ h (RunsI.region h2 (RegI.pure m2 _ e' h3 hn)))
theorem RegI.pd (m : Nat) (e' : Env) (hn : RunsI F k e' w R) (h : evalKeep P F.N (opsOf F.B n) (((opsOf F.B n).toList.drop i).take m) e w (e'.map Prod.fst) = some (e', w) := by kernel_rfl) (hd : Nat.ble (opsOf F.B n).size (i + m) = true := by kernel_rfl) : RegI F n k i e w R := RegI.pure m _ e' h (RegI.done hd hn)
theorem RunsI.qd (m n' : Nat) (k' : List It) (m2 : Nat) (e' : Env) (hn : RunsI F k' e' w R) (h : goIt F.B m todo = some (.c n' :: k') := by kernel_rfl) (h2 : isRegion F.B n' false = true := by kernel_rfl)
    (h3 : evalKeep P F.N (opsOf F.B n') (((opsOf F.B n').toList.drop 0).take m2) e w (e'.map Prod.fst) = some (e', w) := by kernel_rfl) (hd : Nat.ble (opsOf F.B n').size (0 + m2) = true := by kernel_rfl) : RunsI F todo e w R := RunsI.go m _ h (RunsI.region h2 (RegI.pure m2 _ e' h3 (RegI.done hd hn)))
theorem OpE.lB (d c : Nat) (T : TypeId) (b o : Nat) (v : Value) {t : TypeId} {cs : List Value} (hH : Holds M0 w0 w H) (hi : H[c]? = some (Eng.box b t cs)) (hn : K ((d, v) :: e) w) (ho : opOk F n i e d = true := by kernel_rfl) (hl : loadOf F n i e = some (T, ⟨b, o, none⟩) := by kernel_rfl)
    (hv : loadV P T (cs.drop o) = some v := by kernel_rfl) : OpE F n i e w K := OpE.loadBox d c T b o v hH ho hl hi hv hn
theorem OpE.cl (d : Nat) (g : FuncId) (args : Array Value) (h : Calls P g args w (cont K d e)) (ho : opOk F n i e d = true := by kernel_rfl) (hr : (execOp e.eval (opOf F.B n i)).run P w = .ok (.enter g args) w := by kernel_rfl) : OpE F n i e w K := OpE.call d ho g args hr h
theorem OpE.ct (d : Nat) (a b : ByteArray) (h : mayCat a.size b.size = true) (hn : K ((d, .string (a ++ b)) :: e) w) (ho : opOk F n i e d = true := by kernel_rfl) (hx : catOf F n i e = some (a, b) := by kernel_rfl) : OpE F n i e w K := OpE.run d ho (run_cat hx h) hn
theorem AnyE.u (i d : Nat) (v : Value) (hS : Kp T ws w) (hn : AnyE F n k (Kp T ws) m (i :: l) ((d, v) :: e) w R) (ho : takeOk F n l i d e = true := by kernel_rfl) (hy : ∀ w, (execOp e.eval (opOf F.B n i)).run P w = .ok (.value v) w := by intro _; kernel_rfl) : AnyE F n k (Kp T ws) (m + 1) l e w R := AnyE.pure i d v ho hS hy hn
theorem AnyE.ct (i d : Nat) (a b : ByteArray) (hS : Kp T ws w) (h : mayCat a.size b.size = true) (hn : AnyE F n k (Kp T ws) m (i :: l) ((d, .string (a ++ b)) :: e) w R) (ho : takeOk F n l i d e = true := by kernel_rfl) (hx : catOf F n i e = some (a, b) := by kernel_rfl) : AnyE F n k (Kp T ws) (m + 1) l e w R := AnyE.run i d _ ho hS (fun _ _ => run_cat hx h) hn
theorem AnyE.lB (i d c : Nat) (T0 : TypeId) (b o : Nat) (v : Value) (is : List Nat) {t : TypeId} {cs : List Value} (h : Holds M0 w0 ws H) (hT : mines (Eng.pick H is) = T) (hS : Kp T ws w) (hi : H[c]? = some (Eng.box b t cs)) (hn : AnyE F n k (Kp T ws) m (i :: l) ((d, v) :: e) w R)
    (ho : takeOk F n l i d e = true := by kernel_rfl) (hc : is.elem c = false := by rfl) (hl : loadOf F n i e = some (T0, ⟨b, o, none⟩) := by kernel_rfl) (hv : loadV P T0 (cs.drop o) = some v := by kernel_rfl) : AnyE F n k (Kp T ws) (m + 1) l e w R := AnyE.loadBox i d c T0 b o v is h hT ho hS hi hc hl hv hn
theorem AnyE.cl (i d : Nat) (v : Value) (g : FuncId) (args : Array Value) (hS : Kp T ws w) (hy : ∀ w, Kp T ws w → Calls P g args w fun e w1 => e = .returned v ∧ Below w.heap.size w w1) (hn : AnyE F n k (Kp T ws) m (i :: l) ((d, v) :: e) w R)
    (ho : takeOk F n l i d e = true := by kernel_rfl) (hr : ∀ w, (execOp e.eval (opOf F.B n i)).run P w = .ok (.enter g args) w := by intro _; kernel_rfl) : AnyE F n k (Kp T ws) (m + 1) l e w R := AnyE.call i d v g args ho hS hr hy hn
end
end Go.Eng
