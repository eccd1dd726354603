/- The plain law of ConvMakes, for all values whose number is of 64 bits. -/
import Derived.Test.YthfhkfebkpdkcaaGreatDoorVals
import Derived.Test.YthfhkfebkpdkcaaGreatDoorP16
namespace Go.Proofs.YthfhkfebkpdkcaaGreatDoor
open Go.RowKit Go.Lib

theorem no_value {r : Int × Int × ByteArray} (h : r = (0, 0, ⟨#[]⟩)) : (r.1 == 0 && (r.2.1 == 0 && (r.2.2.toList == ([] : List UInt8)))) = true := by
  rw [h]
  kernel_rfl
theorem makes_j0 (k : Nat) (x kd n : Int) (s : ByteArray) (h0 : 0 ≤ n) (h1 : n < 18446744073709551616) (hs : s.size ≤ 16777216) :
    P.stratumlaw06_ConvMakes.j0 (k + 2) true false x kd n s = some true := by
  rw [P.stratumlaw06_ConvMakes.j0, if_neg (by decide)]
  have fa : conv_Apply.f x kd n s = some (convApply x kd n s) := if_pos ⟨h0, h1, by omega⟩
  have fv : kind_Valid.f kd n s = some (validV kd n s) := if_pos (by omega)
  rw [fa, Option.bind_some, fv, Option.bind_some]
  have bad : ∀ c : (x < 1 ∨ 12 < x) ∨ validV kd n s = false ∨ kd ≠ (convD x).1,
      P.stratumlaw06_ConvMakes.j1 (k + 1) (convApply x kd n s).2.2.2 true x kd n s (convApply x kd n s).1 (convApply x kd n s).2.1 (convApply x kd n s).2.2.1 = some true := by
    intro c
    rw [show convApply x kd n s = (0, 0, ⟨#[]⟩, 1) from if_pos c, P.stratumlaw06_ConvMakes.j1, if_pos rfl, if_pos rfl]
    exact congrArg some (no_value (r := (0, 0, ⟨#[]⟩)) rfl)
  by_cases c1 : x < 1
  · rw [if_pos c1]; exact bad (.inl (.inl c1))
  rw [if_neg c1]
  by_cases c2 : x > 12
  · rw [if_pos c2]; exact bad (.inl (.inr c2))
  rw [if_neg c2]
  by_cases c3 : validV kd n s = true
  · rw [if_pos c3]
    unfold conv_From.f
    rw [Option.bind_some]
    by_cases c4 : (convD x).1 = kd
    · have e4 : ((convD x).1 != kd) = false := by rw [c4]; simp
      have ed : convApply x kd n s = convDo x n s := if_neg (by rintro (h | h | h); omega; rw [c3] at h; cases h; exact h c4.symm)
      rw [e4, ed, P.stratumlaw06_ConvMakes.j1, if_neg (by decide)]
      rw [← c4] at c3
      rcases makes_do x n s ⟨by omega, by omega⟩ h0 h1 c3 with m | g
      · rw [if_pos m.ok, show kind_Valid.f (convDo x n s).1 (convDo x n s).2.1 (convDo x n s).2.2.1 = some true from (if_pos (by have := m.size; omega)).trans (congrArg some m.valid), Option.bind_some, if_pos rfl]
        unfold conv_To.f
        rw [Option.bind_some, m.kind]
        simp
      · have h := g.how
        rw [if_neg (by omega), if_pos (no_value (r := ((convDo x n s).1, (convDo x n s).2.1, (convDo x n s).2.2.1)) (by rw [g.zero.1, g.zero.2.1, g.zero.2.2]))]
        unfold conv_Sure.f
        rw [Option.bind_some, g.unsure, if_neg (by decide)]
        split
        · rfl
        · split
          · rfl
          · split
            · rfl
            · rw [show (convDo x n s).2.2.2 = 63 by omega]
              rfl
    · have e4 : ((convD x).1 != kd) = true := bne_iff_ne.2 c4
      rw [e4]
      exact bad (.inr (.inr (Ne.symm c4)))
  · rw [if_neg c3]
    exact bad (.inr (.inl (Bool.eq_false_iff.2 c3)))
theorem makes_true (x kd n : Int) (s : ByteArray) (h0 : 0 ≤ n) (h1 : n < 18446744073709551616) : ∃ k, P.stratumlaw06_ConvMakes.f k x kd n s = some true := by
  refine ⟨2, ?_⟩
  unfold P.stratumlaw06_ConvMakes.f stratumlaw06_awake.f
  rw [Option.bind_some, if_pos rfl]
  by_cases c : (s.size : Int) > 16777216
  · rw [decide_eq_true c, P.stratumlaw06_ConvMakes.j0, if_pos rfl]
  · rw [decide_eq_false c]
    exact makes_j0 0 x kd n s h0 h1 (by omega)
end Go.Proofs.YthfhkfebkpdkcaaGreatDoor
