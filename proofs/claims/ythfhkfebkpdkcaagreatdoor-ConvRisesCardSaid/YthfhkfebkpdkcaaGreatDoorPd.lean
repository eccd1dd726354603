/- The plain law of ConvRises, for all numbers of their kinds. -/
import Derived.Test.YthfhkfebkpdkcaaGreatDoorP24
namespace Go.Proofs.YthfhkfebkpdkcaaGreatDoor
open Go.RowKit Go.Lib Go.Proofs.YthfhkfebkpdkcaaGreatDoorW.PrintWords

/-! ### kind.Order, plain -/
def cmpI (a b : Int) : Int := if a < b then -1 else if a > b then 1 else 0
def orElse0 (c d : Int) : Int := if c = 0 then d else c
def orderV (k1 n1 : Int) (s1 : ByteArray) (k2 n2 : Int) (s2 : ByteArray) : Int :=
  orElse0 (cmpI k1 k2) (orElse0 (if k1 = 2 then cmpI (wrap64 n1) (wrap64 n2) else cmpI n1 n2) (cmpS s1 s2))
theorem cmp_int_f (a b : Int) : P.cmp_Compare_int.f a b = some (cmpI a b) := by
  unfold P.cmp_Compare_int.f P.cmp_isNaN_int.f cmpI
  simp only [bne_self_eq_false, Option.bind_some, Bool.false_eq_true, if_false]
  split
  · rfl
  · split <;> rfl
theorem cmp_u64_f (a b : Int) : P.cmp_Compare_uint64.f a b = some (cmpI a b) := by
  unfold P.cmp_Compare_uint64.f P.cmp_isNaN_uint64.f cmpI
  simp only [bne_self_eq_false, Option.bind_some, Bool.false_eq_true, if_false]
  split
  · rfl
  · split <;> rfl
theorem cmp_i64_f (a b : Int) : P.cmp_Compare_int64.f a b = some (cmpI a b) := by
  unfold P.cmp_Compare_int64.f P.cmp_isNaN_int64.f cmpI
  simp only [bne_self_eq_false, Option.bind_some, Bool.false_eq_true, if_false]
  split
  · rfl
  · split <;> rfl
theorem cmp_or_f (k : Nat) (c d : Int) : P.cmp_Or_int.f (k + 3) [c, d] = some (orElse0 c d) := by
  unfold P.cmp_Or_int.f orElse0
  have w1 : wrap64 (0 + 1) = 1 := by unfold wrap64; omega
  have w2 : wrap64 (1 + 1) = 2 := by unfold wrap64; omega
  have r0 : rd [c, d] 0 = c := rfl
  have r1 : rd [c, d] 1 = d := rfl
  rw [P.cmp_Or_int.l0, if_pos (by simp), if_pos (by omega), if_pos (by simp), r0, w1]
  by_cases h : c = 0
  · rw [if_pos h, if_pos h, P.cmp_Or_int.l0, if_pos (by simp), if_pos (by omega), if_pos (by simp), r1, w2]
    by_cases h2 : d = 0
    · rw [if_pos h2, P.cmp_Or_int.l0, if_neg (by simp), h2]
    · rw [if_neg h2]
  · rw [if_neg h, if_neg h]
theorem order_f (k : Nat) (k1 n1 : Int) (s1 : ByteArray) (k2 n2 : Int) (s2 : ByteArray) : P.kind_Order.f (k + 3) k1 n1 s1 k2 n2 s2 = some (orderV k1 n1 s1 k2 n2 s2) := by
  unfold P.kind_Order.f orderV
  rw [cmp_int_f, Option.bind_some]
  by_cases h : cmpI k1 k2 = 0
  · rw [if_pos h, cmp_u64_f, Option.bind_some, h]
    have e : orElse0 0 = fun d => d := by funext d; rfl
    rw [e]
    by_cases h2 : k1 = 2
    · rw [if_pos h2, if_pos h2, cmp_i64_f, Option.bind_some]
      unfold cmp_Compare_string.f
      rw [Option.bind_some, cmp_or_f, Option.bind_some]
    · rw [if_neg h2, if_neg h2]
      unfold cmp_Compare_string.f
      rw [Option.bind_some, cmp_or_f, Option.bind_some]
  · rw [if_neg h]
    unfold orElse0
    rw [if_neg h]

/-! ### ConvRises: the plain law -/
theorem cmpS_nil : cmpS (⟨#[]⟩ : ByteArray) (⟨#[]⟩ : ByteArray) = 0 := by kernel_rfl
theorem cmpI_self (a : Int) : cmpI a a = 0 := by unfold cmpI; rw [if_neg (by omega), if_neg (by omega)]
theorem or0 (c : Int) : orElse0 c 0 = c := by unfold orElse0; split <;> simp_all
theorem order_num (k n m : Int) (hk : k ≠ 2) : orderV k n ⟨#[]⟩ k m ⟨#[]⟩ = cmpI n m := by
  unfold orderV
  rw [cmpI_self, if_neg hk, cmpS_nil, or0]
  rfl
theorem order_int (n m : Int) : orderV 2 n ⟨#[]⟩ 2 m ⟨#[]⟩ = cmpI (wrap64 n) (wrap64 m) := by
  unfold orderV
  rw [cmpI_self, if_pos rfl, cmpS_nil, or0]
  rfl
theorem wrap_low {n : Int} (h0 : 0 ≤ n) (h : ¬ n > 9223372036854775807) : wrap64 n = n := by unfold wrap64; omega
/-- Where neither conversion fails, the order of the values is the order of what they become. -/
theorem rises (x a b : Int) (hx : x = 1 ∨ x = 2 ∨ x = 9 ∨ x = 10) (ha : 0 ≤ a) (hb : 0 ≤ b)
    (ea : (convApply x (convD x).1 a ⟨#[]⟩).2.2.2 = 0) (eb : (convApply x (convD x).1 b ⟨#[]⟩).2.2.2 = 0) :
    orderV (convD x).1 a ⟨#[]⟩ (convD x).1 b ⟨#[]⟩ = orderV (convApply x (convD x).1 a ⟨#[]⟩).1 (convApply x (convD x).1 a ⟨#[]⟩).2.1 (convApply x (convD x).1 a ⟨#[]⟩).2.2.1 (convApply x (convD x).1 b ⟨#[]⟩).1 (convApply x (convD x).1 b ⟨#[]⟩).2.1 (convApply x (convD x).1 b ⟨#[]⟩).2.2.1 := by
  have key : ∀ n, (convApply x (convD x).1 n ⟨#[]⟩).2.2.2 = 0 → convApply x (convD x).1 n ⟨#[]⟩ = convDo x n ⟨#[]⟩ := by
    intro n h
    unfold convApply at h ⊢
    split at h
    · exact absurd h (by decide)
    · rename_i q
      rw [if_neg q]
  have ka := key a ea
  have kb := key b eb
  rw [ka] at ea ⊢
  rw [kb] at eb ⊢
  rcases hx with rfl | rfl | rfl | rfl
  · have e : ∀ n, convDo 1 n ⟨#[]⟩ = if n > 9223372036854775807 then (0, 0, ⟨#[]⟩, 60) else (2, n, ⟨#[]⟩, 0) := fun n => rfl
    rw [e] at ea eb ⊢
    rw [e]
    by_cases qa : a > 9223372036854775807
    · rw [if_pos qa] at ea; exact absurd ea (by decide)
    by_cases qb : b > 9223372036854775807
    · rw [if_pos qb] at eb; exact absurd eb (by decide)
    rw [if_neg qa, if_neg qb]
    show orderV 1 a ⟨#[]⟩ 1 b ⟨#[]⟩ = orderV 2 a ⟨#[]⟩ 2 b ⟨#[]⟩
    rw [order_num _ _ _ (by decide), order_int, wrap_low ha qa, wrap_low hb qb]
  · have e : ∀ n, convDo 2 n ⟨#[]⟩ = if n > 9223372036854775807 then (0, 0, ⟨#[]⟩, 60) else (1, n, ⟨#[]⟩, 0) := fun n => rfl
    rw [e] at ea eb ⊢
    rw [e]
    by_cases qa : a > 9223372036854775807
    · rw [if_pos qa] at ea; exact absurd ea (by decide)
    by_cases qb : b > 9223372036854775807
    · rw [if_pos qb] at eb; exact absurd eb (by decide)
    rw [if_neg qa, if_neg qb]
    show orderV 2 a ⟨#[]⟩ 2 b ⟨#[]⟩ = orderV 1 a ⟨#[]⟩ 1 b ⟨#[]⟩
    rw [order_int, order_num _ _ _ (by decide), wrap_low ha qa, wrap_low hb qb]
  · show orderV 3 a ⟨#[]⟩ 3 b ⟨#[]⟩ = orderV 1 a ⟨#[]⟩ 1 b ⟨#[]⟩
    rw [order_num _ _ _ (by decide), order_num _ _ _ (by decide)]
  · have e : ∀ n, convDo 10 n ⟨#[]⟩ = if n > 1 then (0, 0, ⟨#[]⟩, 60) else (3, n, ⟨#[]⟩, 0) := fun n => rfl
    rw [e] at ea eb ⊢
    rw [e]
    by_cases qa : a > 1
    · rw [if_pos qa] at ea; exact absurd ea (by decide)
    by_cases qb : b > 1
    · rw [if_pos qb] at eb; exact absurd eb (by decide)
    rw [if_neg qa, if_neg qb]
    show orderV 1 a ⟨#[]⟩ 1 b ⟨#[]⟩ = orderV 3 a ⟨#[]⟩ 3 b ⟨#[]⟩
    rw [order_num _ _ _ (by decide), order_num _ _ _ (by decide)]

theorem rises_j0 (k : Nat) (x a b : Int) (hx : x = 1 ∨ x = 2 ∨ x = 9 ∨ x = 10) (ha : 0 ≤ a ∧ a < 18446744073709551616) (hb : 0 ≤ b ∧ b < 18446744073709551616) : P.stratumlaw06_ConvRises.j0 (k + 5) x a b true false = some true := by
  rw [P.stratumlaw06_ConvRises.j0, if_neg (by decide)]
  have fa : ∀ n, 0 ≤ n ∧ n < 18446744073709551616 → conv_Apply.f x (convD x).1 n ⟨#[]⟩ = some (convApply x (convD x).1 n ⟨#[]⟩) := fun n h => if_pos ⟨h.1, h.2, by decide⟩
  unfold conv_From.f
  rw [Option.bind_some, fa a ha, Option.bind_some, fa b hb, Option.bind_some]
  by_cases ea : (convApply x (convD x).1 a ⟨#[]⟩).2.2.2 = 0
  · rw [if_pos ea]
    by_cases eb : (convApply x (convD x).1 b ⟨#[]⟩).2.2.2 = 0
    · rw [eb, P.stratumlaw06_ConvRises.j1, if_neg (by decide), order_f, Option.bind_some, order_f, Option.bind_some, ← rises x a b hx ha.1 hb.1 ea eb]
      simp
    · rw [P.stratumlaw06_ConvRises.j1, if_pos (by simpa using eb)]
  · rw [if_neg ea, P.stratumlaw06_ConvRises.j1, if_pos rfl]
theorem rises_true (x a b : Int) (ha : 0 ≤ a ∧ a < 18446744073709551616) (hb : 0 ≤ b ∧ b < 18446744073709551616) : ∃ k, P.stratumlaw06_ConvRises.f k x a b = some true := by
  refine ⟨5, ?_⟩
  unfold P.stratumlaw06_ConvRises.f stratumlaw06_awake.f
  rw [Option.bind_some, if_pos rfl]
  by_cases h1 : x = 1
  · rw [if_pos h1]; exact rises_j0 0 x a b (.inl h1) ha hb
  rw [if_neg h1]
  by_cases h2 : x = 2
  · rw [if_pos h2]; exact rises_j0 0 x a b (.inr (.inl h2)) ha hb
  rw [if_neg h2]
  by_cases h9 : x = 9
  · rw [if_pos h9]; exact rises_j0 0 x a b (.inr (.inr (.inl h9))) ha hb
  rw [if_neg h9]
  by_cases h10 : x = 10
  · rw [h10]; exact rises_j0 0 10 a b (.inr (.inr (.inr rfl))) ha hb
  · have e : (x != 10) = true := bne_iff_ne.2 h10
    rw [e, P.stratumlaw06_ConvRises.j0, if_pos rfl]
end Go.Proofs.YthfhkfebkpdkcaaGreatDoor
