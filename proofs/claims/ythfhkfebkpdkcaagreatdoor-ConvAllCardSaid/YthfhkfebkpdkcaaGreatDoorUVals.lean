/- The number that digits write; what each conversion makes or refuses, for every valid value; no condition. -/
import Derived.Test.YthfhkfebkpdkcaaGreatDoorUApply
import Derived.Stop.FmtTextWidths
namespace Go.Proofs.YthfhkfebkpdkcaaGreatDoor
open Go.RowKit Go.Lib

/-! ### The number that digits write -/
def dval : Nat → List UInt8 → Nat
  | acc, [] => acc
  | acc, c :: r => dval (acc * 10 + (c.toNat - 48)) r
theorem dval_nil (acc : Nat) : dval acc [] = acc := by unfold dval; rfl
theorem dval_cons (acc : Nat) (c : UInt8) (r : List UInt8) : dval acc (c :: r) = dval (acc * 10 + (c.toNat - 48)) r := by conv => lhs; unfold dval
theorem dval_ge : ∀ (l : List UInt8) (acc : Nat), acc ≤ dval acc l
  | [], acc => by rw [dval_nil]; exact Nat.le_refl _
  | c :: r, acc => by
    rw [dval_cons]
    exact Nat.le_trans (by omega) (dval_ge r (acc * 10 + (c.toNat - 48)))
theorem parse_val : ∀ (l : List UInt8) (acc : Nat), (∀ c ∈ l, isDig c = true) → acc ≤ 18446744073709551615 →
    Lib.parseUintM 18446744073709551615 acc l = if dval acc l ≤ 18446744073709551615 then .ok (dval acc l) else .range
  | [], acc, _, ha => by rw [Lib.parseUintM, dval_nil, if_pos ha]
  | c :: r, acc, hc, ha => by
    have hd := hc c (by simp)
    unfold isDig at hd
    simp only [Bool.and_eq_true, decide_eq_true_eq] at hd
    have g := dval_ge r (acc * 10 + (c.toNat - 48))
    rw [Lib.parseUintM, if_pos hd, dval_cons]
    by_cases h1 : 1844674407370955162 ≤ acc
    · rw [if_pos h1, if_neg (by omega)]
    rw [if_neg h1]
    by_cases h2 : 18446744073709551615 < acc * 10 + (c.toNat - 48)
    · rw [if_pos h2, if_neg (by omega)]
    rw [if_neg h2]
    exact parse_val r _ (fun x hx => hc x (by simp [hx])) (by omega)
theorem parse_digits {l : List UInt8} (h : isDigits l = true) : Lib.parseUintB 64 l = if dval 0 l ≤ 18446744073709551615 then .ok (dval 0 l) else .range := by
  unfold isDigits at h
  simp only [Bool.and_eq_true, Bool.not_eq_true', List.all_eq_true] at h
  obtain ⟨hne, hall⟩ := h
  unfold Lib.parseUintB
  rw [if_neg (by intro e; rw [e] at hne; simp at hne)]
  exact parse_val l 0 hall (by omega)
theorem dec_len : ∀ (k n : Nat), n < 10 ^ (k + 1) → (Lib.decDigits n).length ≤ k + 1
  | 0, n, h => by
    rw [Lib.decDigits, dif_pos (by omega)]
    exact Nat.le_refl _
  | k + 1, n, h => by
    rw [Lib.decDigits]
    split
    · simp
    · rw [List.length_append]
      have := dec_len k (n / 10) (by rw [Nat.pow_succ] at h; omega)
      simp only [List.length_singleton]
      omega
theorem dec_small {n : Nat} (h : n < 18446744073709551616) : (Lib.decDigits n).length ≤ 20 := dec_len 19 n (Nat.lt_trans h (by decide))
/-! ### Signed numbers -/
theorem dig_bounds {c : UInt8} (h : isDig c = true) : 48 ≤ c.toNat ∧ c.toNat ≤ 57 := by
  unfold isDig at h
  simpa only [Bool.and_eq_true, decide_eq_true_eq] using h
theorem dig_not_minus {c : UInt8} (h : isDig c = true) : c ≠ 45 := by
  intro e
  rw [e] at h
  exact absurd h (by decide)
theorem trim_digits {l : List UInt8} (h : isDigits l = true) : trimMinus l = l := by
  match l, h with
  | [], h => simp [isDigits] at h
  | c :: r, h =>
    refine trimMinus_plain c r (dig_not_minus ?_)
    unfold isDigits at h
    simp only [List.all_cons, Bool.and_eq_true] at h
    exact h.2.1
theorem parseInt_plain {l : List UInt8} (h : isDigits l = true) : Lib.parseIntB 64 l = Lib.signlessC 9223372036854775808 (Lib.parseUintB 64 l) := by
  match l, h with
  | [], h => simp [isDigits] at h
  | c :: r, h =>
    have hd : isDig c = true := by
      unfold isDigits at h
      simp only [List.all_cons, Bool.and_eq_true] at h
      exact h.2.1
    have b := dig_bounds hd
    rw [Lib.parseIntB_plain _ _ _ (by omega) (by omega)]
/-! ### Texts of bytes below 128 -/
/-! ### What a conversion makes -/
theorem nil_of {s : ByteArray} (h : (s.toList == ([] : List UInt8)) = true) : s = ⟨#[]⟩ := by
  have e : s.data.toList = [] := by rw [← Lib.toList_data]; simpa using h
  cases s with | mk d => cases d; simp at e; rw [e]
theorem bool_nil {n : Int} {s : ByteArray} (h : validV 3 n s = true) : n ≤ 1 ∧ s = ⟨#[]⟩ := by
  unfold validV at h
  rw [if_neg (by decide), if_pos rfl, Bool.and_eq_true, decide_eq_true_eq] at h
  exact ⟨h.1, nil_of h.2⟩
theorem conv5_ok (n : Int) {s : ByteArray} {u : Nat} (d : isDigits s.data.toList = true) (hp : Lib.parseUintB 64 s.data.toList = .ok u) : convDo 5 n s = (1, (u : Int), ⟨#[]⟩, 0) := by
  unfold convDo
  rw [if_neg (by decide), if_neg (by decide), if_neg (by decide), if_neg (by decide), if_pos rfl, if_pos d, hp]
theorem conv5_range (n : Int) {s : ByteArray} (d : isDigits s.data.toList = true) (hp : Lib.parseUintB 64 s.data.toList = .range) : convDo 5 n s = (0, 0, ⟨#[]⟩, 60) := by
  unfold convDo
  rw [if_neg (by decide), if_neg (by decide), if_neg (by decide), if_neg (by decide), if_pos rfl, if_pos d, hp]
theorem conv5_no (n : Int) {s : ByteArray} (d : ¬ isDigits s.data.toList = true) : convDo 5 n s = (0, 0, ⟨#[]⟩, 61) := by
  unfold convDo
  rw [if_neg (by decide), if_neg (by decide), if_neg (by decide), if_neg (by decide), if_pos rfl, if_neg d]
theorem conv6_ok (n : Int) {s : ByteArray} {v : Int} (d : isDigits (trimMinus s.data.toList) = true) (hp : Lib.parseIntB 64 s.data.toList = .ok v) : convDo 6 n s = (2, IntKind.u64.wrap v, ⟨#[]⟩, 0) := by
  unfold convDo
  rw [if_neg (by decide), if_neg (by decide), if_neg (by decide), if_neg (by decide), if_neg (by decide), if_pos rfl, if_pos d, hp]
theorem conv6_range (n : Int) {s : ByteArray} (d : isDigits (trimMinus s.data.toList) = true) (hp : Lib.parseIntB 64 s.data.toList = .range) : convDo 6 n s = (0, 0, ⟨#[]⟩, 60) := by
  unfold convDo
  rw [if_neg (by decide), if_neg (by decide), if_neg (by decide), if_neg (by decide), if_neg (by decide), if_pos rfl, if_pos d, hp]
theorem conv6_no (n : Int) {s : ByteArray} (d : ¬ isDigits (trimMinus s.data.toList) = true) : convDo 6 n s = (0, 0, ⟨#[]⟩, 61) := by
  unfold convDo
  rw [if_neg (by decide), if_neg (by decide), if_neg (by decide), if_neg (by decide), if_neg (by decide), if_pos rfl, if_neg d]

theorem size_mk (l : List UInt8) : (⟨l.toArray⟩ : ByteArray).size = l.length := by simp [ByteArray.size]
end Go.Proofs.YthfhkfebkpdkcaaGreatDoor
