/- The plain law of ConvStart, for numbers of 64 bits and texts of at most 2^48 bytes. -/
import Derived.Test.YthfhkfebkpdkcaaGreatDoorVP20
namespace Go.Proofs.YthfhkfebkpdkcaaGreatDoor
open Go.RowKit Go.Lib

/-! ### ConvStart: the reference's table is the program's -/
theorem skinds_f (x : Int) : P.stratumref06_kinds.f x = some ((convD x).1, (convD x).2.1) := by
  unfold P.stratumref06_kinds.f
  rw [Option.bind_some, Option.bind_some]
  by_cases c1 : x < 1
  · rw [if_pos c1, convD_no x (.inl c1)]
  rw [if_neg c1]
  by_cases c2 : x > 12
  · rw [if_pos c2, convD_no x (.inr c2)]
  have hx : x = 1 ∨ x = 2 ∨ x = 3 ∨ x = 4 ∨ x = 5 ∨ x = 6 ∨ x = 7 ∨ x = 8 ∨ x = 9 ∨ x = 10 ∨ x = 11 ∨ x = 12 := by omega
  rcases hx with rfl | rfl | rfl | rfl | rfl | rfl | rfl | rfl | rfl | rfl | rfl | rfl <;> rfl
theorem sfrom_f (x : Int) : P.stratumref06_From.f x = some (convD x).1 := by unfold P.stratumref06_From.f; rw [skinds_f, Option.bind_some]
theorem sto_f (x : Int) : P.stratumref06_To.f x = some (convD x).2.1 := by unfold P.stratumref06_To.f; rw [skinds_f, Option.bind_some]
theorem ssure_f (x : Int) : P.stratumref06_Sure.f x = some (convD x).2.2.1 := by
  unfold P.stratumref06_Sure.f
  by_cases h : x < 1 ∨ 12 < x
  · rw [convD_no x h, if_neg (by omega), if_neg (by omega), if_neg (by omega), if_neg (by omega)]
    have : (x == 11) = false := beq_eq_false_iff_ne.2 (by omega)
    rw [this]
  have hx : x = 1 ∨ x = 2 ∨ x = 3 ∨ x = 4 ∨ x = 5 ∨ x = 6 ∨ x = 7 ∨ x = 8 ∨ x = 9 ∨ x = 10 ∨ x = 11 ∨ x = 12 := by omega
  rcases hx with rfl | rfl | rfl | rfl | rfl | rfl | rfl | rfl | rfl | rfl | rfl | rfl <;> rfl
theorem ft_at (j : Nat) (h : j < 12) : ftL.drop j = ((convD ((j + 1 : Nat) : Int)).1, (convD ((j + 1 : Nat) : Int)).2.1) :: ftL.drop (j + 1) := by
  match j, h with
  | 0, _ | 1, _ | 2, _ | 3, _ | 4, _ | 5, _ | 6, _ | 7, _ | 8, _ | 9, _ | 10, _ | 11, _ => rfl
theorem betwL_cons (a b : Int) (j : Nat) (x : Int × Int) (r : List (Int × Int)) : betwL a b j (x :: r) = if x.1 = a ∧ x.2 = b then ((j + 1 : Nat) : Int) else betwL a b (j + 1) r := by
  conv => lhs; unfold betwL
theorem sbetween_l0 (a b : Int) : ∀ (d k j : Nat), 12 - j = d → j ≤ 12 → d < k → P.stratumref06_Between.l0 k a b ((j + 1 : Nat) : Int) = some (betwL a b j (ftL.drop j)) := by
  intro d
  induction d with
  | zero =>
    intro k j hd hj hk
    obtain ⟨k, rfl⟩ : ∃ q, k = q + 1 := ⟨k - 1, by omega⟩
    obtain rfl : j = 12 := by omega
    rw [P.stratumref06_Between.l0, if_neg (by decide)]
    rfl
  | succ d ih =>
    intro k j hd hj hk
    obtain ⟨k, rfl⟩ : ∃ q, k = q + 1 := ⟨k - 1, by omega⟩
    have e : wrap64 (((j + 1 : Nat) : Int) + 1) = ((j + 1 + 1 : Nat) : Int) := by unfold wrap64; omega
    have n := ih k (j + 1) (by clear e; omega) (by clear e; omega) (by clear e; omega)
    rw [P.stratumref06_Between.l0, if_pos (by clear e; omega), skinds_f, Option.bind_some, e, n, ft_at j (by clear e; omega), betwL_cons]
    by_cases c1 : (convD ((j + 1 : Nat) : Int)).1 = a
    · by_cases c2 : (convD ((j + 1 : Nat) : Int)).2.1 = b
      · rw [if_pos c1, if_pos c2, if_pos ⟨c1, c2⟩]
      · rw [if_pos c1, if_neg c2, if_neg (fun q => c2 q.2)]
    · rw [if_neg c1, if_neg (fun q => c1 q.1)]
theorem sbetween_f (a b : Int) (k : Nat) : P.stratumref06_Between.f (k + 13) a b = some (between a b) :=
  sbetween_l0 a b 12 (k + 13) 0 rfl (by decide) (by omega)
theorem start_true (x kd n : Int) (s name : ByteArray) (a b : Int) (h0 : 0 ≤ n) (h1 : n < 18446744073709551616) (hs : s.size ≤ 281474976710656) : ∃ k, P.stratumlaw06_ConvStart.f k x kd n s name a b = some true := by
  refine ⟨14, ?_⟩
  unfold P.stratumlaw06_ConvStart.f stratumlaw06_awake.f stratumlaw06_start.f
  rw [Option.bind_some, if_pos rfl, Option.bind_some, P.stratumlaw06_ConvStart.j0, if_neg (by decide)]
  have fa : conv_Apply.f x kd n s = some (convApply x kd n s) := if_pos ⟨h0, h1, hs⟩
  unfold stratumlaw06_own.f conv_Between.f conv_From.f conv_To.f conv_Sure.f stratumlaw06_start.f
  rw [fa, Option.bind_some, Option.bind_some, if_pos rfl, Option.bind_some, sbetween_f a b 0, Option.bind_some, if_pos rfl, Option.bind_some, sfrom_f, Option.bind_some, if_pos rfl, Option.bind_some, sto_f, Option.bind_some, if_pos rfl, Option.bind_some, ssure_f, Option.bind_some, if_neg (by simp), Option.bind_some]
end Go.Proofs.YthfhkfebkpdkcaaGreatDoor
