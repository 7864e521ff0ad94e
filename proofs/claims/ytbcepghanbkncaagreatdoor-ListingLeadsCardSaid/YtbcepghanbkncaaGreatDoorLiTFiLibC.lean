import Derived.Test.YtbcepghanbkncaaGreatDoorLiTFiLibB
namespace Go.Proofs.YtbcepghanbkncaaGreatDoor.LiT.Fi
open Go.RowKit Go.Eng Go.Proofs.YtbcepghanbkncaaGreatDoor.LiT.Ce
def mA : List Cel := [(0, 62), (1, 7), (2, 24), (3, 252), (4, 65)]
def lA : List ByteArray := [(⟨#[48, 48, 48, 48, 104, 58, 32, 51, 101, 48, 55, 32, 32, 32, 32, 32, 108, 100, 32, 97, 44, 48, 55, 104]⟩ : ByteArray), (⟨#[48, 48, 48, 50, 104, 58, 32, 49, 56, 102, 99, 32, 32, 32, 32, 32, 106, 114, 32, 36, 45, 50]⟩ : ByteArray)]
theorem aw_load : charabancref14_Load_23.f 1000 ([] : List (Int × Int)) 0 ([62, 7, 24, 252, 65] : List Int) = some mA := by kernel_rfl
theorem aw_lines : listing_Lines_14.f 1000 mA 0 2 = some lA := by kernel_rfl
theorem aw_next : listing_Next_13.f 1000 mA 0 2 = some 4 := by kernel_rfl
theorem aw_target : listing_Target_8.f 1000 0 195 0 9 3 0 0 = some (9, true) := by kernel_rfl
theorem aw_same : charabancref09_Same_16.f 1000 lA lA = some true := by kernel_rfl
def rA : ByteArray := (⟨#[48, 48, 48, 48, 104, 58, 32, 51, 101, 32, 48, 55, 32, 49, 56, 32, 102, 99, 32, 52, 49, 32, 48, 48, 32, 48, 48, 32, 48, 48, 32, 48, 48, 32, 48, 48, 32, 48, 48, 32, 48, 48, 32, 48, 48, 32, 48, 48, 32, 48, 48, 32, 48, 48, 32, 32, 62, 46, 46, 46, 65, 46, 46, 46, 46, 46, 46, 46, 46, 46, 46, 46]⟩ : ByteArray)
theorem aw_rows : listing_Rows_15.f 1000 mA 0 1 = some [rA] := by kernel_rfl
theorem aw_targets : ∃ t, listing_Targets_10.f 1000 mA 0 2 = some t ∧ charabancref34_Words_11.f 1000 t [0] = some true := ⟨[0], by kernel_rfl, by kernel_rfl⟩
theorem aw_cells : okC mA ∧ (∀ a, 0 ≤ getC mA a ∧ getC mA a < 256) := by
  refine ⟨by intro p hp; simp [mA] at hp; rcases hp with rfl | rfl | rfl | rfl | rfl <;> decide, fun a => ?_⟩
  simp only [getC, mA, List.foldl]
  repeat' split
  all_goals omega
theorem aw_find : listing_Find_20.f 1000 mA 0 [7, 24] = some (1, true) :=
  goFind (l := mA) (by decide) aw_cells.1 aw_cells.2 (a := 0) (by decide) (b := [7, 24]) (by intro x hx; simp at hx; rcases hx with rfl | rfl <;> decide) (by decide)
    (Found.yes (g := getC mA) (a := ((0 : Nat) : Int)) (b := [7, 24]) 1 (by decide) (by decide) (fun j hj => by
      obtain rfl : j = 0 := by omega
      decide))
theorem awake : charabanclaw34_awake_7.f 1000 = some true := by
  unfold charabanclaw34_awake_7.f
  obtain ⟨t, ht, hw⟩ := aw_targets
  rw [aw_load, Option.bind_some, aw_lines, Option.bind_some, aw_rows, Option.bind_some, aw_find, Option.bind_some, aw_target, Option.bind_some]
  show ((charabancref09_Same_16.f 1000 lA lA).bind _) = _
  rw [aw_same, Option.bind_some, cond_t]
  refine (cond_of (by kernel_rfl) _ _).trans ?_
  refine (cond_of (by kernel_rfl) _ _).trans ?_
  refine (cond_of (beq_self_eq_true (ByteArray.toList rA)) _ _).trans ?_
  rw [aw_next]
  rw [Option.bind_some]
  refine (cond_of (by kernel_rfl) _ _).trans ?_
  refine (cond_of rfl _ _).trans ?_
  refine (cond_of rfl _ _).trans ?_
  refine (cond_of rfl _ _).trans ?_
  refine (cond_of rfl _ _).trans ?_
  rw [ht, Option.bind_some, hw]; rfl
end Go.Proofs.YtbcepghanbkncaaGreatDoor.LiT.Fi
