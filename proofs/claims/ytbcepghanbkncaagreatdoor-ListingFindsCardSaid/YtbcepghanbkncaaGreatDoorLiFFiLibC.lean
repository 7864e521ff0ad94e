import Derived.Test.YtbcepghanbkncaaGreatDoorLiFFiLibB
namespace Go.Proofs.YtbcepghanbkncaaGreatDoor.LiF.Fi
open Go.RowKit Go.Eng Go.Proofs.YtbcepghanbkncaaGreatDoor.LiF.Ce
def mA : List Cel := [(0, 62), (1, 7), (2, 24), (3, 252), (4, 65)]
def lA : List ByteArray := [(⟨#[48, 48, 48, 48, 104, 58, 32, 51, 101, 48, 55, 32, 32, 32, 32, 32, 108, 100, 32, 97, 44, 48, 55, 104]⟩ : ByteArray), (⟨#[48, 48, 48, 50, 104, 58, 32, 49, 56, 102, 99, 32, 32, 32, 32, 32, 106, 114, 32, 36, 45, 50]⟩ : ByteArray)]
theorem aw_load : charabancref14_Load_23.f 70000 ([] : List (Int × Int)) 0 ([62, 7, 24, 252, 65] : List Int) = some mA := by kernel_rfl
theorem aw_lines : listing_Lines_14.f 70000 mA 0 2 = some lA := by kernel_rfl
theorem aw_next : listing_Next_13.f 70000 mA 0 2 = some 4 := by kernel_rfl
theorem aw_target : listing_Target_8.f 70000 0 195 0 9 3 0 0 = some (9, true) := by kernel_rfl
theorem aw_same : charabancref09_Same_16.f 70000 lA lA = some true := by kernel_rfl
def rA : ByteArray := (⟨#[48, 48, 48, 48, 104, 58, 32, 51, 101, 32, 48, 55, 32, 49, 56, 32, 102, 99, 32, 52, 49, 32, 48, 48, 32, 48, 48, 32, 48, 48, 32, 48, 48, 32, 48, 48, 32, 48, 48, 32, 48, 48, 32, 48, 48, 32, 48, 48, 32, 48, 48, 32, 48, 48, 32, 32, 62, 46, 46, 46, 65, 46, 46, 46, 46, 46, 46, 46, 46, 46, 46, 46]⟩ : ByteArray)
theorem aw_rows : listing_Rows_15.f 70000 mA 0 1 = some [rA] := by kernel_rfl
theorem aw_targets : ∃ t, listing_Targets_10.f 70000 mA 0 2 = some t ∧ charabancref34_Words_11.f 70000 t [0] = some true := ⟨[0], by kernel_rfl, by kernel_rfl⟩
theorem aw_cells : okC mA ∧ (∀ a, 0 ≤ getC mA a ∧ getC mA a < 256) := by
  refine ⟨by intro p hp; simp [mA] at hp; rcases hp with rfl | rfl | rfl | rfl | rfl <;> decide, fun a => ?_⟩
  simp only [getC, mA, List.foldl]
  repeat' split
  all_goals omega
theorem aw_find : listing_Find_20.f 70000 mA 0 [7, 24] = some (1, true) :=
  goFind (l := mA) (by decide) aw_cells.1 aw_cells.2 (a := 0) (by decide) (b := [7, 24]) (by intro x hx; simp at hx; rcases hx with rfl | rfl <;> decide) (by decide)
    (Found.yes (g := getC mA) (a := ((0 : Nat) : Int)) (b := [7, 24]) 1 (by decide) (by decide) (fun j hj => by
      obtain rfl : j = 0 := by omega
      decide))
theorem awake : charabanclaw34_awake_7.f 70000 = some true := by
  unfold charabanclaw34_awake_7.f
  obtain ⟨t, ht, hw⟩ := aw_targets
  rw [aw_load, Option.bind_some, aw_lines, Option.bind_some, aw_rows, Option.bind_some, aw_find, Option.bind_some, aw_target, Option.bind_some]
  show ((charabancref09_Same_16.f 70000 lA lA).bind _) = _
  rw [aw_same, Option.bind_some, cond_t]
  refine (cond_of (by kernel_rfl) _ _).trans ?_
  refine (cond_of (by kernel_rfl) _ _).trans ?_
  refine (cond_of (beq_self_eq_true (ByteArray.toList rA)) _ _).trans ?_
  rw [aw_next]
  rw [Option.bind_some]
  refine (cond_of (by kernel_rfl) _ _).trans ?_
  refine (cond_of rfl _ _).trans ?_
  refine (cond_of rfl _ _).trans ?_
  refine (cond_of rfl _ _).trans ?_
  refine (cond_of rfl _ _).trans ?_
  rw [ht, Option.bind_some, hw]; rfl
theorem getC_in : ∀ {l : List Cel} (h : ∀ p ∈ l, 0 ≤ p.2 ∧ p.2 < 256) (b a : Int), 0 ≤ b ∧ b < 256 → 0 ≤ l.foldl (fun b p => if p.1 = a then p.2 else b) b ∧ l.foldl (fun b p => if p.1 = a then p.2 else b) b < 256
  | [], _, b, a, hb => hb
  | p :: l, h, b, a, hb => by
    rw [List.foldl_cons]
    refine getC_in (fun q hq => h q (List.mem_cons_of_mem _ hq)) _ a ?_
    split
    · exact h p List.mem_cons_self
    · exact hb
theorem finds {l : List Cel} (hl : l.length ≤ 60) (ho : okC l) (hv : ∀ p ∈ l, 0 ≤ p.2 ∧ p.2 < 256) {a : Nat} (ha : a < 65536) {b : List Int} (hb : okB b) (hbl : b.length ≤ 100) :
    ∃ r : Int × Bool, listing_Find_20.f 70000 l (a : Int) b = some r ∧ charabancref34_Find_21.f 70000 l (a : Int) b = some r ∧ (r.2 = true → charabancref14_Dump_22.f 70000 l r.1 (b.length : Int) = some b) := by
  by_cases h64 : b.length ≤ 64
  · obtain ⟨r, hr⟩ := found_ex (getC l) a b
    refine ⟨r, goFind (by omega) ho (fun a => getC_in hv 0 a (by decide)) ha hb h64 hr, refFind (by omega) ho ha h64 hr, fun h => ?_⟩
    cases hr with
    | yes i hi h2 hn => rw [refDump (by omega) (by omega) (by omega), Int.toNat_natCast]; exact congrArg some h2
    | no hn => cases h
  · refine ⟨(0, false), ?_, ?_, fun h => by cases h⟩
    · unfold listing_Find_20.f; rw [decide_eq_true (by omega), cond_t]
    · unfold charabancref34_Find_21.f; rw [decide_eq_true (by omega), cond_t]
end Go.Proofs.YtbcepghanbkncaaGreatDoor.LiF.Fi
