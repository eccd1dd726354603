/- The three parts of the conversions' table, and slices.Grow of nothing by twelve, for every world. -/
import Derived.Test.YthfhkfebkpdkcaaGreatDoorKb
import Derived.Test.YthfhkfebkpdkcaaGreatDoorShelf
import Derived.WalkLawsBesides
import Derived.OwnWalk
import Derived.Outline
namespace Go.Proofs.YthfhkfebkpdkcaaGreatDoor
open Go.RowKit
def rowA : Array Value := #[.int .i64 1, .int .i64 2, .bool false, .func (.func 66) #[] #[], .int .i64 2, .int .i64 1, .bool false, .func (.func 68) #[] #[], .int .i64 1, .int .i64 4, .bool true, .func (.func 70) #[] #[], .int .i64 2, .int .i64 4, .bool true, .func (.func 73) #[] #[]]
set_option maxRecDepth 100000 in
set_option maxHeartbeats 1000000 in
theorem ofNumbers_any (w : World) : Calls Tryz.prog 49 #[] w fun e w' => e = .returned (.slice (some ⟨w.heap.size, 0, none⟩) 4 4) ∧ w.alloc (.cells rowA 47) = w' := by
  go_enter Tryz.func49, Tryz.ntmps49
  go_wp2
  go_ret
  exact ⟨rfl, rfl⟩
def rowB : Array Value := #[.int .i64 4, .int .i64 1, .bool false, .func (.func 75) #[] #[], .int .i64 4, .int .i64 2, .bool false, .func (.func 78) #[] #[], .int .i64 3, .int .i64 4, .bool true, .func (.func 82) #[] #[], .int .i64 4, .int .i64 3, .bool false, .func (.func 84) #[] #[]]
set_option maxRecDepth 100000 in
set_option maxHeartbeats 1000000 in
theorem ofTexts_any (w : World) : Calls Tryz.prog 50 #[] w fun e w' => e = .returned (.slice (some ⟨w.heap.size, 0, none⟩) 4 4) ∧ w.alloc (.cells rowB 47) = w' := by
  go_enter Tryz.func50, Tryz.ntmps50
  go_wp2
  go_ret
  exact ⟨rfl, rfl⟩
def rowC : Array Value := #[.int .i64 3, .int .i64 1, .bool true, .func (.func 85) #[] #[], .int .i64 1, .int .i64 3, .bool false, .func (.func 86) #[] #[], .int .i64 4, .int .i64 5, .bool true, .func (.func 88) #[] #[], .int .i64 5, .int .i64 4, .bool false, .func (.func 89) #[] #[]]
set_option maxRecDepth 100000 in
set_option maxHeartbeats 1000000 in
theorem others_any (w : World) : Calls Tryz.prog 51 #[] w fun e w' => e = .returned (.slice (some ⟨w.heap.size, 0, none⟩) 4 4) ∧ w.alloc (.cells rowC 47) = w' := by
  go_enter Tryz.func51, Tryz.ntmps51
  go_wp2
  go_ret
  exact ⟨rfl, rfl⟩
def convRows : List Value := rowA.toList ++ rowB.toList ++ rowC.toList
theorem conv_info : ((Tryz.prog).info? 47).map (fun i => (i.zero, i.size, i.bytes)) = some (some (.agg #[.int .i64 0, .int .i64 0, .bool false, .nilFunc]), 4, 32) := by kernel_rfl
theorem grow_any (w : World) : Calls Tryz.prog 63 #[.slice none 0 0, .int .i64 12] w fun e w' => ∃ v, e = .returned v ∧ w'.ownsRow w.heap.size 47 4 v 0 [] ∧ Below w.heap.size w w' := by
  obtain ⟨i0, hi0, hz0, hz1, hz2⟩ := info_parts conv_info
  have c := Any8.slices_Grow_grow Tryz.growC i0 _ hi0 hz0 (by rw [hz1]; decide) none 0 0 12 [] w (Nat.le_refl _) (by decide) (by rw [hz2]; decide) (by decide) (by simp) (fun _ => rfl) (fun a h => by cases h)
  change Calls Tryz.prog 63 #[.slice none 0 0, .int .i64 12] w _ at c
  have h12 := grownCap_ge w (0 + 12) 0 47
  have hm := grownCap_le_maxLen w (0 + 12) 0 47 (by unfold maxLen; omega)
  change Calls _ _ _ _ (fun e w' => e = .returned (.slice (some ⟨w.heap.size, 0, none⟩) 0 (grownCap w (0 + 12) 0 47)) ∧ w' = w.drew.alloc (.cells (#[] ++ Builtin.zeroCells #[.int .i64 0, .int .i64 0, .bool false, .nilFunc] (0 + 12 - 0) ++ Builtin.zeroCells #[.int .i64 0, .int .i64 0, .bool false, .nilFunc] (grownCap w (0 + 12) 0 47 - (0 + 12))) 47)) at c
  generalize grownCap w (0 + 12) 0 47 = cp at c h12 hm
  refine c.mono ?_
  rintro e w' ⟨rfl, rfl⟩
  refine ⟨_, rfl, ⟨rfl, .inr ⟨w.heap.size, cp, _, rfl, Nat.le_refl _, heap_last w.drew _, Nat.zero_le _, hm, ?_, ?_⟩⟩, ((Below.refl _ _).drew).alloc (Nat.le_refl _) _⟩
  · simp only [Array.size_append, size_zeroCells, List.size_toArray, List.length_cons, List.length_nil]
    omega
  · simp
end Go.Proofs.YthfhkfebkpdkcaaGreatDoor
