/- Where an instruction leads to: the program's answer is the reference's. -/
import Derived.Test.YtbcepghanbkncaaGreatDoorLiTDcLibD
import Derived.Test.YtbcepghanbkncaaGreatDoorLiTCeLibD
set_option linter.unusedVariables false
set_option linter.unusedSimpArgs false
namespace Go.Proofs.YtbcepghanbkncaaGreatDoor.LiT.Le
open Go.RowKit Go.Eng Go.Proofs.YtbcepghanbkncaaGreatDoor.LiT
theorem let_and {β : Type} (a b c : Bool) (F : Bool → Option β) : Let F (fun j => cond a (cond b (j c) (j false)) (j false)) = F (a && (b && c)) := by cases a <;> cases b <;> rfl
theorem let_two {β : Type} (a b : Bool) (F : Bool → Option β) : Let F (fun j => cond a (j b) (j false)) = F (a && b) := by cases a <;> rfl
theorem let_go {β : Type} (a b c d e f g : Bool) (F : Bool → Option β) : Let F (fun j66 => cond a (j66 true) (cond b (j66 true) (Let (fun (t48 : Bool) => cond t48 (j66 true) (Let (fun (t57 : Bool) => j66 t57) (fun j60 => cond e (cond f (j60 g) (j60 false)) (j60 false)))) (fun j51 => cond c (j51 d) (j51 false))))) = F (a || (b || ((c && d) || (e && (f && g))))) := by
  cases a <;> cases b <;> cases c <;> cases d <;> cases e <;> cases f <;> rfl
theorem let_ref {β : Type} (x a b c d e f g : Bool) (F : Bool → Option β) : Let F (fun j54 => cond x (cond a (j54 true) (cond b (j54 true) (cond c (cond d (j54 true) (cond e (cond f (j54 g) (j54 false)) (j54 false))) (cond e (cond f (j54 g) (j54 false)) (j54 false))))) (j54 false)) = F (x && (a || (b || ((c && d) || (e && (f && g)))))) := by
  cases x <;> cases a <;> cases b <;> cases c <;> cases d <;> cases e <;> cases f <;> rfl
def fieldOk : Bool := (List.range 256).all fun c => match decode_Fields_24.f 1000 (c : Int), charabancref08_Fields_27.f 1000 (c : Int) with | some a, some b => a == b && decide (0 ≤ a.1) && decide (a.1 < 4) && decide (0 ≤ a.2.1) && decide (a.2.1 < 8) | _, _ => false
theorem fieldAll : fieldOk = true := by kernel_rfl
theorem field_at {c : Int} (hc : 0 ≤ c ∧ c < 256) : ∃ x y z p q : Int, decode_Fields_24.f 1000 c = some (x, y, z, p, q) ∧ charabancref08_Fields_27.f 1000 c = some (x, y, z, p, q) ∧ 0 ≤ y ∧ y < 8 := by
  have := List.all_eq_true.1 fieldAll c.toNat (List.mem_range.2 (by omega))
  rw [show ((c.toNat : Nat) : Int) = c by omega] at this
  cases h1 : decode_Fields_24.f 1000 c with
  | none => rw [h1] at this; cases this
  | some a =>
    cases h2 : charabancref08_Fields_27.f 1000 c with
    | none => rw [h1, h2] at this; cases this
    | some b =>
      rw [h1, h2] at this
      simp only [Bool.and_eq_true, beq_iff_eq, decide_eq_true_eq] at this
      obtain ⟨⟨⟨⟨rfl, -⟩, -⟩, h3⟩, h4⟩ := this
      exact ⟨a.1, a.2.1, a.2.2.1, a.2.2.2.1, a.2.2.2.2, rfl, rfl, h3, h4⟩
theorem wrap_i8 (n : Int) : IntKind.wrap .i8 n = (n + 128) % 256 - 128 := by
  simp only [IntKind.wrap, IntKind.bits, IntKind.signed]
  simp
  omega
theorem near_eq {imm : Int} (hi : 0 ≤ imm ∧ imm < 65536) (b : Int) {s : Int} (hs : charabancref01_Signed_28.f 1000 (IntKind.wrap .u8 (Int.tmod imm 256)) = some s) :
    IntKind.wrap .u16 (b + IntKind.wrap .u16 (IntKind.wrap .i64 (IntKind.wrap .i8 (IntKind.wrap .u8 imm)))) = IntKind.wrap .u16 (b + IntKind.wrap .u16 (IntKind.wrap .i64 (s + 65536))) := by
  have h1 : IntKind.wrap .u8 (Int.tmod imm 256) = imm % 256 := by rw [IntKind.wrap_u8, Int.tmod_eq_emod_of_nonneg hi.1]; omega
  rw [h1] at hs
  unfold charabancref01_Signed_28.f at hs
  rw [wrap_i8, IntKind.wrap_u8, wrap_i64 (x := (imm % 256 + 128) % 256 - 128) (by omega) (by omega)]
  by_cases h : imm % 256 < 128
  · rw [decide_eq_true h, cond_t, wrap_i64 (by omega) (by omega)] at hs
    obtain rfl := Option.some.inj hs
    rw [wrap_i64 (by omega) (by omega), IntKind.wrap_u16, IntKind.wrap_u16, IntKind.wrap_u16, IntKind.wrap_u16]; omega
  · rw [decide_eq_false h, cond_f, wrap_i64 (x := imm % 256) (by omega) (by omega), wrap_i64 (by omega) (by omega)] at hs
    obtain rfl := Option.some.inj hs
    rw [wrap_i64 (by omega) (by omega), IntKind.wrap_u16, IntKind.wrap_u16, IntKind.wrap_u16, IntKind.wrap_u16]; omega
theorem signed_some (v : Int) : ∃ s, charabancref01_Signed_28.f 1000 v = some s := by
  unfold charabancref01_Signed_28.f
  cases decide (v < 128) <;> exact ⟨_, rfl⟩
theorem target_eq {c imm : Int} (hc : 0 ≤ c ∧ c < 256) (hi : 0 ≤ imm ∧ imm < 65536) (pl d n e a : Int) : ∃ (t : Int) (f : Bool), listing_Target_8.f 1000 pl c d imm n e a = some (t, f) ∧ charabancref34_Target_9.f 1000 pl c d imm n e a = some (t, f) := by
  obtain ⟨x, y, z, p, q, h1, h2, h3, h4⟩ := field_at hc
  obtain ⟨s, hs⟩ := signed_some (IntKind.wrap .u8 (Int.tmod imm 256))
  have hn := near_eq hi (IntKind.wrap .u16 (a + IntKind.wrap .u16 n)) hs
  unfold listing_Target_8.f charabancref34_Target_9.f bits_Lo_26.f bits_Signed_25.f
  rw [let_and, let_and, h1, h2, hs]
  simp only [Option.bind_some]
  rw [let_and, let_go, let_and, let_ref, let_two, hn]
  have e1 : (x != 3) = !(x == 3) := rfl
  have e2 : decide (y > 1) = decide (y ≥ 2) := by by_cases h : y > 1 <;> simp [h] <;> omega
  rw [e1, e2]
  generalize (z == 2 || (z == 4 || ((z == 3 && y == 0) || (z == 5 && (q == 1 && p == 0))))) = I
  generalize (pl != 0 && (pl != 3 && pl != 4)) = P
  generalize (z == 7) = Z
  generalize (x == 3) = X
  generalize ((x == 0) && ((z == 0) && decide (y ≥ 2))) = Nr
  cases P
  · cases Nr
    · cases X
      · exact ⟨_, _, rfl, rfl⟩
      · cases I
        · cases Z <;> exact ⟨_, _, rfl, rfl⟩
        · exact ⟨_, _, rfl, rfl⟩
    · exact ⟨_, _, rfl, rfl⟩
  · exact ⟨_, _, rfl, rfl⟩
end Go.Proofs.YtbcepghanbkncaaGreatDoor.LiT.Le
