/- The engine's library: rows over arrays, texts out of them; what contracts of Go's library want and give. -/
import Derived.Test.YtbcepghanbkncaaGreatDoorEngArr
import Derived.Lib.LaidTab
import Derived.Lib.AppendIntMem
import Derived.Lib.ItoaNum
import Derived.Lib.Join
import Derived.Lib.Repeat
import Derived.Lib.Strings
set_option linter.unusedVariables false
set_option linter.unusedSimpArgs false
namespace Go.Eng
open Go.RowKit
theorem flat_ints (kk : IntKind) : ∀ xs : List Int, (xs.flatMap fun x => ([.int kk x] : List Value)) = xs.map (Value.int kk)
  | [] => rfl
  | x :: xs => by rw [List.flatMap_cons, flat_ints kk xs]; rfl
section
variable {P : Program} {F : Fun P} {k : List It} {e e' : Env} {w w' ws w0 : World} {R : Ending → World → Prop} {n i m : Nat} {l : List Nat} {M0 : Nat → Prop} {H : List Chunk} {T : List Nat} {K : Env → World → Prop}
theorem run_cutArr {T : TypeId} {b len sz : Nat} {lo hi : Option Int} (hx : cutOf F n i e = some (T, .pointer (some ⟨b, 0, none⟩), lo, hi)) (hT : arrSz P T = some (len, sz)) (h : cutR (lo.getD 0) (hi.getD len) len = true) :
    (execOp e.eval (opOf F.B n i)).run P w = .ok (.value (slicedAt ⟨b, 0, none⟩ (lo.getD 0).toNat (hi.getD len).toNat len sz)) w := by
  simp only [cutR, Bool.and_eq_true, decide_eq_true_eq] at h
  obtain ⟨⟨h0, h1⟩, h2⟩ := h
  unfold arrSz at hT
  cases hu : P.underlying T with
  | none => simp [hu] at hT
  | some dd =>
    cases dd <;> simp only [hu] at hT <;> first | (cases hT; done) | skip
    rename_i nn E
    cases hI : P.info? E with
    | none => simp [hI] at hT
    | some inf =>
      simp only [hI, Option.map_some, Option.some.injEq, Prod.mk.injEq] at hT
      obtain ⟨rfl, rfl⟩ := hT
      have hlen : P.arrayLen T = nn := by simp [Program.arrayLen, hu]
      have hel : P.elem T = E := by simp [Program.elem, hu]
      have ht : P.underlying T = some (.array (P.arrayLen T) (P.elem T)) := by rw [hlen, hel]; exact hu
      have hs : (sizeOf (P.elem T)).run P w = .ok inf.size w := by rw [hel]; simp [sizeOf, typeInfo, hI]
      unfold cutOf at hx
      cases hop : (opOf F.B n i).op <;> simp only [hop] at hx <;> first | (cases hx; done) | skip
      rename_i T' x l h m
      cases m with
      | some m => simp at hx
      | none =>
        simp only at hx
        unfold execOp
        simp only [hop]
        cases l with
        | none =>
          cases h with
          | none =>
            simp only [Option.some.injEq, Prod.mk.injEq] at hx
            obtain ⟨rfl, hv, rfl, rfl⟩ := hx
            have := run_sliceAt_array_all (P := P) (w := w) (t := _) (a := ⟨b, 0, none⟩) (ht := ht)
            rw [hs, Result.andThen_ok, hlen] at this
            simp [hv, this]
          | some h =>
            cases hh : e.eval h <;> simp only [hh] at hx <;> first | (cases hx; done) | skip
            rename_i kk j
            simp only [Option.some.injEq, Prod.mk.injEq] at hx
            obtain ⟨rfl, hv, rfl, rfl⟩ := hx
            simp only [Option.getD_none, Option.getD_some] at h0 h1 h2
            have := run_sliceAt_array_h (P := P) (w := w) (t := _) (a := ⟨b, 0, none⟩) (ht := ht) kk j h1 (by rw [hlen]; exact h2)
            rw [hs, Result.andThen_ok, hlen] at this
            simp [hv, hh, this]
        | some l =>
          cases hl : e.eval l <;> simp only [hl] at hx <;> first | (cases hx; done) | skip
          rename_i k0 j0
          cases h with
          | none =>
            simp only [Option.some.injEq, Prod.mk.injEq] at hx
            obtain ⟨rfl, hv, rfl, rfl⟩ := hx
            simp only [Option.getD_none, Option.getD_some] at h0 h1 h2
            have := run_sliceAt_array_l (P := P) (w := w) (t := _) (a := ⟨b, 0, none⟩) (ht := ht) k0 j0 h0 (by rw [hlen]; exact h1)
            rw [hs, Result.andThen_ok, hlen] at this
            simp [hv, hl, this]
          | some h =>
            cases hh : e.eval h <;> simp only [hh] at hx <;> first | (cases hx; done) | skip
            rename_i kk j
            simp only [Option.some.injEq, Prod.mk.injEq] at hx
            obtain ⟨rfl, hv, rfl, rfl⟩ := hx
            simp only [Option.getD_some] at h0 h1 h2
            have := run_sliceAt_array_lh (P := P) (w := w) (t := _) (a := ⟨b, 0, none⟩) (ht := ht) k0 kk j0 j h0 h1 (by rw [hlen]; exact h2)
            rw [hs, Result.andThen_ok, hlen] at this
            simp [hv, hl, hh, this]
theorem rdBox {M : Nat → Prop} {b len : Nat} {t : TypeId} {kk : IntKind} {xs : List Int} (h : w.heap[b]? = some (.cells (xs.flatMap fun x => ([.int kk x] : List Value)).toArray t (0, 0))) (lo hi' : Int) (hl : Nat.beq xs.length len = true) (hr : cutR lo hi' len = true) :
    Rd (Rp.int kk) w M (slicedAt ⟨b, 0, none⟩ lo.toNat hi'.toNat len 1) (cutL xs lo hi') := by
  have hl := Nat.eq_of_beq_eq_true hl
  simp only [cutR, Bool.and_eq_true, decide_eq_true_eq] at hr
  obtain ⟨⟨h0, h1⟩, h2⟩ := hr
  have hlen : (cutL xs lo hi').length = hi'.toNat - lo.toNat := by unfold cutL; simp; omega
  have hmap := flat_ints kk xs
  refine ⟨_, _, by unfold slicedAt; rw [hlen], fun hp => ?_⟩
  refine ⟨_, (cutL xs lo hi').map (Value.int kk), rfl, cells_int kk w _ _, fun j u hu => ?_⟩
  have hj : j < hi'.toNat - lo.toNat := by
    have := (List.getElem?_eq_some_iff.1 hu).1
    rw [List.length_map, hlen] at this
    exact this
  have hu2 : (xs.flatMap fun x => ([.int kk x] : List Value))[lo.toNat + j]? = some u := by
    rw [hmap, List.getElem?_map]
    rw [List.getElem?_map] at hu
    unfold cutL at hu
    rw [List.getElem?_drop, List.getElem?_take_of_lt (by omega)] at hu
    exact hu
  have hcell := box_cells h 0 (lo.toNat + j) u (by simpa using hu2)
  have hne : len ≠ lo.toNat := by omega
  rw [if_neg hne]
  simp only [Addr.add_lit, Nat.mul_one, Nat.zero_add] at hcell ⊢
  exact hcell
theorem Holds.rdArr (h : Holds M0 w0 w H) (c : Nat) {b len : Nat} {t : TypeId} {kk : IntKind} {xs : List Int} (hi : H[c]? = some (Eng.box b t (xs.flatMap fun x => ([.int kk x] : List Value)))) (lo hi' : Int) (hl : Nat.beq xs.length len = true) (hr : cutR lo hi' len = true) :
    Rd (Rp.int kk) w (Mset M0 H) (slicedAt ⟨b, 0, none⟩ lo.toNat hi'.toNat len 1) (cutL xs lo hi') := rdBox (h.get c hi) lo hi' hl hr
def in64 (x : Int) : Bool := decide (-9223372036854775808 ≤ x) && decide (x ≤ 9223372036854775807)
theorem in64_l {x : Int} (h : in64 x = true) : -9223372036854775808 ≤ x := by simp only [in64, Bool.and_eq_true, decide_eq_true_eq] at h; exact h.1
theorem in64_r {x : Int} (h : in64 x = true) : x ≤ 9223372036854775807 := by simp only [in64, Bool.and_eq_true, decide_eq_true_eq] at h; exact h.2
theorem tabIs_of_gl {M : Nat → Prop} {nm : String} {g : Nat} {kk : IntKind} {tab zs : List Int} (h : (gl g (tab.flatMap fun x => ([.int kk x] : List Value))).ok w M) (hg : P.globalNamed nm = some g) (hz : tab = zs) : Lib.TabIs P w nm kk zs := by
  obtain ⟨_, _, _, t, z, hb⟩ := h
  subst hz
  unfold Lib.TabIs World.var?
  rw [hg, Option.bind_some, hb, flat_ints]
def repR (n : Nat) (c : Int) : Bool := decide (0 ≤ c) && Nat.ble c.toNat 9223372036854775807 && Nat.ble (n * c.toNat) 140737488355328
theorem repR_of {n : Nat} {c : Int} (h : repR n c = true) : 0 ≤ c ∧ c.toNat ≤ 9223372036854775807 ∧ n * c.toNat ≤ 140737488355328 := by
  simp only [repR, Bool.and_eq_true, decide_eq_true_eq] at h
  exact ⟨h.1.1, Nat.le_of_ble_eq_true h.1.2, Nat.le_of_ble_eq_true h.2⟩
end
end Go.Eng
