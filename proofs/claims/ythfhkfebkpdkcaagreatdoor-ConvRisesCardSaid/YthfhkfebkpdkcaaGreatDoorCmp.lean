/- cmp.Compare of texts answers a plain function, for all texts. -/
import Derived.Test.YthfhkfebkpdkcaaGreatDoorKb
import Derived.WalkLawsBesides
namespace Go.Proofs.YthfhkfebkpdkcaaGreatDoor
open Go.RowKit

/-- cmp.Compare of texts. -/
def cmpS (a b : ByteArray) : Int := if (Op.bytesLess a.toList b.toList) = true then -1 else if (!Op.bytesLess a.toList b.toList && !(a.toList == b.toList)) = true then 1 else 0
theorem nan_no (s : ByteArray) (w : World) : Calls Tryz.prog 58 #[.string s] w fun e w' => e = .returned (.bool false) ∧ w = w' := by
  go_enter Tryz.func58, Tryz.ntmps58
  go_wp2
  go_ret
  exact ⟨by simp, rfl⟩
set_option maxRecDepth 100000 in
theorem cmpS_any (a b : ByteArray) (w : World) : Calls Tryz.prog 42 #[.string a, .string b] w fun e w' => e = .returned (.int .i64 (cmpS a b)) ∧ w = w' := by
  by_cases h1 : (Op.bytesLess a.toList b.toList) = true
  · have e : cmpS a b = -1 := if_pos h1
    rw [e]
    clear e
    go_enter Tryz.func42, Tryz.ntmps42
    go_wp2_with (go_at_call 58; refine (nan_no _ _).mono ?_; rintro e w1 ⟨rfl, rfl⟩)
    go_ret
    exact ⟨rfl, rfl⟩
  · by_cases h2 : (!Op.bytesLess a.toList b.toList && !(a.toList == b.toList)) = true
    · have e : cmpS a b = 1 := by unfold cmpS; rw [if_neg h1, if_pos h2]
      rw [e]
      clear e
      replace h1 : (Op.bytesLess a.toList b.toList) = false := by simpa using h1
      have h3 : (a.toList == b.toList) = false := by simpa [h1] using h2
      clear h2
      go_enter Tryz.func42, Tryz.ntmps42
      go_wp2_with (go_at_call 58; refine (nan_no _ _).mono ?_; rintro e w1 ⟨rfl, rfl⟩)
      go_ret
      exact ⟨rfl, rfl⟩
    · have e : cmpS a b = 0 := by unfold cmpS; rw [if_neg h1, if_neg h2]
      rw [e]
      clear e
      replace h1 : (Op.bytesLess a.toList b.toList) = false := by simpa using h1
      have h3 : (a.toList == b.toList) = true := by simpa [h1] using h2
      clear h2
      go_enter Tryz.func42, Tryz.ntmps42
      go_wp2_with (go_at_call 58; refine (nan_no _ _).mono ?_; rintro e w1 ⟨rfl, rfl⟩)
      go_ret
      exact ⟨rfl, rfl⟩
def cmp_Compare_string.f (a0 a1 : ByteArray) : Option Int := some (cmpS a0 a1)
theorem cmp_Compare_string.calls (a0 a1 : ByteArray) (r : Int) (w : World) (h : cmp_Compare_string.f a0 a1 = some r) : Calls Tryz.prog 42 #[.string a0, .string a1] w fun e w' => e = .returned (.int .i64 r) ∧ Below w.heap.size w w' := by
  obtain rfl := Option.some.inj h
  refine (cmpS_any a0 a1 w).mono ?_
  rintro e w' ⟨rfl, rfl⟩
  exact ⟨rfl, Below.refl _ _⟩
end Go.Proofs.YthfhkfebkpdkcaaGreatDoor
