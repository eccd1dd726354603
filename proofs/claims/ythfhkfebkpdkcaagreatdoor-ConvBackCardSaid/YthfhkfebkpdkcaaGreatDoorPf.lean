/- The plain law of ConvBack, for all values whose number is of 64 bits. -/
import Derived.Test.YthfhkfebkpdkcaaGreatDoorVals
import Derived.Test.YthfhkfebkpdkcaaGreatDoorP18
namespace Go.Proofs.YthfhkfebkpdkcaaGreatDoor
open Go.RowKit Go.Lib

/-- Back again: conversion y takes what conversion x made into the value that was. -/
def Back (x kd n : Int) (s : ByteArray) (y : Int) : Prop :=
  ∀ r, r = convDo x n s → r.2.2.2 = 0 → y ≠ 0 ∧ convApply y r.1 r.2.1 r.2.2.1 = (kd, n, s, 0)
theorem apply_do {x kd n : Int} {s : ByteArray} (h : 1 ≤ x ∧ x ≤ 12) (hv : validV kd n s = true) (hk : kd = (convD x).1) : convApply x kd n s = convDo x n s :=
  if_neg (by rintro (q | q | q); omega; rw [hv] at q; cases q; exact q hk)
theorem back_do (x n : Int) (s : ByteArray) (h : 1 ≤ x ∧ x ≤ 12) (h5 : x ≠ 5) (h6 : x ≠ 6) (h0 : 0 ≤ n) (h1 : n < 18446744073709551616) (hv : validV (convD x).1 n s = true) :
    Back x (convD x).1 n s (between (convD x).2.1 (convD x).1) := by
  have hx : x = 1 ∨ x = 2 ∨ x = 3 ∨ x = 4 ∨ x = 7 ∨ x = 8 ∨ x = 9 ∨ x = 10 ∨ x = 11 ∨ x = 12 := by omega
  rcases hx with rfl | rfl | rfl | rfl | rfl | rfl | rfl | rfl | rfl | rfl
  · intro r hr ho
    obtain rfl := num_nil (k := 1) (.inl rfl) hv
    have e : convDo 1 n ⟨#[]⟩ = if n > 9223372036854775807 then (0, 0, ⟨#[]⟩, 60) else (2, n, ⟨#[]⟩, 0) := rfl
    rw [e] at hr
    by_cases c : n > 9223372036854775807
    · rw [if_pos c] at hr; rw [hr] at ho; exact absurd ho (by decide)
    · rw [if_neg c] at hr
      rw [hr]
      refine ⟨by decide, (apply_do (x := 2) (kd := 2) (by decide) (validV_num (.inr rfl)) rfl).trans ?_⟩
      exact if_neg c
  · intro r hr ho
    obtain rfl := num_nil (k := 2) (.inr rfl) hv
    have e : convDo 2 n ⟨#[]⟩ = if n > 9223372036854775807 then (0, 0, ⟨#[]⟩, 60) else (1, n, ⟨#[]⟩, 0) := rfl
    rw [e] at hr
    by_cases c : n > 9223372036854775807
    · rw [if_pos c] at hr; rw [hr] at ho; exact absurd ho (by decide)
    · rw [if_neg c] at hr
      rw [hr]
      refine ⟨by decide, (apply_do (x := 1) (kd := 1) (by decide) (validV_num (.inl rfl)) rfl).trans ?_⟩
      exact if_neg c
  · intro r hr ho
    obtain rfl := num_nil (k := 1) (.inl rfl) hv
    rw [hr]
    refine ⟨by decide, (apply_do (x := 5) (kd := 4) (by decide) ((validV_text _).trans (ascii_list (dec_ascii _))) rfl).trans ?_⟩
    rw [conv5_ok 0 (s := ⟨(Lib.decDigits n.toNat).toArray⟩) (u := n.toNat) (by simpa using dec_is n.toNat) (by simpa using parse_dec (n := n.toNat) (by omega))]
    show (1, ((n.toNat : Nat) : Int), _, _) = _
    rw [Int.toNat_of_nonneg h0]
    rfl
  · intro r hr ho
    obtain rfl := num_nil (k := 2) (.inr rfl) hv
    rw [hr]
    refine ⟨by decide, (apply_do (x := 6) (kd := 4) (by decide) ((validV_text _).trans (ascii_list (itoa_ascii _))) rfl).trans ?_⟩
    have b := wrap_bounds n
    rw [conv6_ok 0 (s := ⟨(Lib.itoa (wrap64 n)).toArray⟩) (v := wrap64 n) (by simpa [trim_itoa] using dec_is (wrap64 n).natAbs) (by simpa using parse_itoa _ b.1 b.2)]
    show (2, IntKind.u64.wrap (wrap64 n), _, _) = _
    rw [wrapU_wrap n h0 h1]
    rfl
  · intro r hr ho
    obtain ⟨hn, rfl⟩ := bool_nil hv
    rw [hr]
    have hn2 : n = 0 ∨ n = 1 := by omega
    rcases hn2 with rfl | rfl
    · exact ⟨by decide, by kernel_rfl⟩
    · exact ⟨by decide, by kernel_rfl⟩
  · intro r hr ho
    obtain ⟨rfl, hu⟩ := text_zero hv
    have e : convDo 8 0 s = (if s.toList = ([102, 97, 108, 115, 101] : List UInt8) then (3, 0, ⟨#[]⟩, 0) else if s.toList = ([116, 114, 117, 101] : List UInt8) then (3, 1, ⟨#[]⟩, 0) else (0, 0, ⟨#[]⟩, 63)) := rfl
    rw [e] at hr
    have sz : ∀ l : List UInt8, s.toList = l → s = ⟨l.toArray⟩ := by
      intro l hl
      rw [Lib.toList_data] at hl
      cases s with | mk d => cases d; simp at hl; rw [hl]
    by_cases c : s.toList = ([102, 97, 108, 115, 101] : List UInt8)
    · rw [if_pos c] at hr
      rw [hr, sz _ c]
      exact ⟨by decide, by kernel_rfl⟩
    rw [if_neg c] at hr
    by_cases d : s.toList = ([116, 114, 117, 101] : List UInt8)
    · rw [if_pos d] at hr
      rw [hr, sz _ d]
      exact ⟨by decide, by kernel_rfl⟩
    rw [if_neg d] at hr
    rw [hr] at ho
    exact absurd ho (by decide)
  · intro r hr ho
    obtain ⟨hn, rfl⟩ := bool_nil hv
    rw [hr]
    refine ⟨by decide, (apply_do (x := 10) (kd := 1) (by decide) (validV_num (.inl rfl)) rfl).trans ?_⟩
    have e : convDo 10 n ⟨#[]⟩ = (if n > 1 then (0, 0, ⟨#[]⟩, 60) else (3, n, ⟨#[]⟩, 0)) := rfl
    exact e.trans (if_neg (by omega))
  · intro r hr ho
    obtain rfl := num_nil (k := 1) (.inl rfl) hv
    have e : convDo 10 n ⟨#[]⟩ = (if n > 1 then (0, 0, ⟨#[]⟩, 60) else (3, n, ⟨#[]⟩, 0)) := rfl
    rw [e] at hr
    by_cases c : n > 1
    · rw [if_pos c] at hr; rw [hr] at ho; exact absurd ho (by decide)
    · rw [if_neg c] at hr
      rw [hr]
      exact ⟨by decide, (apply_do (x := 9) (kd := 3) (by decide) (validV_bool (n := n) (by omega)) rfl).trans rfl⟩
  · intro r hr ho
    obtain ⟨rfl, hu⟩ := text_zero hv
    rw [hr]
    refine ⟨by decide, (apply_do (x := 12) (kd := 5) (by decide) (validV_raw s) rfl).trans ?_⟩
    exact if_pos hu
  · intro r hr ho
    obtain rfl := raw_zero hv
    have e : convDo 12 0 s = (if utfValid s = true then (4, 0, s, 0) else (0, 0, ⟨#[]⟩, 62)) := rfl
    rw [e] at hr
    by_cases c : utfValid s = true
    · rw [if_pos c] at hr
      rw [hr]
      exact ⟨by decide, (apply_do (x := 11) (kd := 4) (by decide) ((validV_text s).trans c) rfl).trans rfl⟩
    · rw [if_neg c] at hr; rw [hr] at ho; exact absurd ho (by decide)

theorem back_j0 (k : Nat) (x kd n : Int) (s : ByteArray) (h0 : 0 ≤ n) (h1 : n < 18446744073709551616) (hs : s.size ≤ 16777216) :
    P.stratumlaw06_ConvBack.j0 (k + 2) true false x kd n s = some true := by
  rw [P.stratumlaw06_ConvBack.j0, if_neg (by decide)]
  have fa : conv_Apply.f x kd n s = some (convApply x kd n s) := if_pos ⟨h0, h1, by omega⟩
  unfold conv_To.f conv_From.f conv_Between.f
  rw [fa, Option.bind_some, Option.bind_some, Option.bind_some, Option.bind_some]
  by_cases c : (x < 1 ∨ 12 < x) ∨ validV kd n s = false ∨ kd ≠ (convD x).1
  · rw [show convApply x kd n s = (0, 0, ⟨#[]⟩, 1) from if_pos c, if_neg (by decide)]
  have ed : convApply x kd n s = convDo x n s := if_neg c
  have hx : 1 ≤ x ∧ x ≤ 12 := by omega
  have hv : validV kd n s = true := by
    cases q : validV kd n s with
    | true => rfl
    | false => exact absurd (.inr (.inl q)) c
  have hk : kd = (convD x).1 := Decidable.not_not.1 fun q => c (.inr (.inr q))
  rw [ed]
  subst hk
  by_cases o : (convDo x n s).2.2.2 = 0
  · rw [if_pos o]
    by_cases h5 : x = 5
    · rw [if_pos h5]
    rw [if_neg h5]
    by_cases h6 : x = 6
    · rw [if_pos h6]
    rw [if_neg h6]
    obtain ⟨y0, ya⟩ := back_do x n s hx h5 h6 h0 h1 hv _ rfl o
    rcases makes_do x n s hx h0 h1 hv with m | g
    · have fb : conv_Apply.f (between (convD x).2.1 (convD x).1) (convDo x n s).1 (convDo x n s).2.1 (convDo x n s).2.2.1 = some ((convD x).1, n, s, 0) :=
        (if_pos ⟨m.low, m.high, by have := m.size; omega⟩).trans (congrArg some ya)
      rw [fb, Option.bind_some, if_neg y0, if_pos rfl]
      simp
    · have := g.how
      exact absurd o (by omega)
  · rw [if_neg o]
theorem back_true (x kd n : Int) (s : ByteArray) (h0 : 0 ≤ n) (h1 : n < 18446744073709551616) : ∃ k, P.stratumlaw06_ConvBack.f k x kd n s = some true := by
  refine ⟨2, ?_⟩
  unfold P.stratumlaw06_ConvBack.f stratumlaw06_awake.f
  rw [Option.bind_some, if_pos rfl]
  by_cases c : (s.size : Int) > 16777216
  · rw [decide_eq_true c, P.stratumlaw06_ConvBack.j0, if_pos rfl]
  · rw [decide_eq_false c]
    exact back_j0 0 x kd n s h0 h1 (by omega)
end Go.Proofs.YthfhkfebkpdkcaaGreatDoor
