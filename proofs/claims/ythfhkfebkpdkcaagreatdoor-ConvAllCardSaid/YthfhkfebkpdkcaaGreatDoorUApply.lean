/- conv.Apply answers a plain function, for numbers of 64 bits and texts of at most 2^48 bytes, where the world is laid. -/
import Derived.Test.YthfhkfebkpdkcaaGreatDoorUPb
namespace Go.Proofs.YthfhkfebkpdkcaaGreatDoor
open Go.RowKit Go.Lib

theorem do1 (k n : Int) (s : ByteArray) : DoIs 66 k n s (convDo 1 n s) := fun w _ =>
  Q.conv_ofNumbers_1.calls k n s _ _ _ _ w (by
    show Q.conv_ofNumbers_1.f k n s = some (convDo 1 n s)
    unfold Q.conv_ofNumbers_1.f convDo
    rw [if_pos rfl]
    by_cases c : n > 9223372036854775807
    · rw [if_pos c, if_pos c]; rfl
    · rw [if_neg c, if_neg c]; rfl)
theorem do2 (k n : Int) (s : ByteArray) (h0 : 0 ≤ n) (h1 : n < 18446744073709551616) : DoIs 68 k n s (convDo 2 n s) := fun w _ =>
  Q.conv_ofNumbers_2.calls k n s _ _ _ _ w (by
    show Q.conv_ofNumbers_2.f k n s = some (convDo 2 n s)
    unfold Q.conv_ofNumbers_2.f convDo
    rw [if_neg (show ¬ (2 : Int) = 1 by decide), if_pos rfl]
    by_cases c : n > 9223372036854775807
    · rw [if_pos (show wrap64 n < 0 by unfold wrap64; omega), if_pos c]; rfl
    · rw [if_neg (show ¬ wrap64 n < 0 by unfold wrap64; omega), if_neg c]; rfl)
theorem do3 (k n : Int) (s : ByteArray) (h0 : 0 ≤ n) (h1 : n < 18446744073709551616) : DoIs 70 k n s (convDo 3 n s) := fun w hL =>
  Q.conv_ofNumbers_3.calls k n s _ _ _ _ w hL (by
    show Q.conv_ofNumbers_3.f k n s = some (convDo 3 n s)
    unfold Q.conv_ofNumbers_3.f strconv_FormatUint.f
    rw [if_pos ⟨h0, h1, rfl⟩]
    rfl)
theorem wrap_bounds (n : Int) : -9223372036854775808 ≤ wrap64 n ∧ wrap64 n ≤ 9223372036854775807 := by unfold wrap64; omega
theorem do4 (k n : Int) (s : ByteArray) : DoIs 73 k n s (convDo 4 n s) := fun w hL =>
  Q.conv_ofNumbers_4.calls k n s _ _ _ _ w hL (by
    show Q.conv_ofNumbers_4.f k n s = some (convDo 4 n s)
    unfold Q.conv_ofNumbers_4.f strconv_FormatInt.f
    rw [if_pos ⟨(wrap_bounds n).1, (wrap_bounds n).2, rfl⟩]
    rfl)
theorem do5 (k n : Int) (s : ByteArray) (hs : s.size ≤ 281474976710656) : DoIs 75 k n s (convDo 5 n s) := fun w hL => by
  by_cases h : isDigits s.data.toList = true
  · rcases digits_parse h with ⟨u, hp⟩ | hp
    · have e : convDo 5 n s = (1, (u : Int), ⟨#[]⟩, 0) := by
        unfold convDo
        rw [if_neg (by decide), if_neg (by decide), if_neg (by decide), if_neg (by decide), if_pos rfl, if_pos h, hp]
      rw [e]
      exact textUint_ok k n s w u hs h hp
    · have e : convDo 5 n s = (0, 0, ⟨#[]⟩, 60) := by
        unfold convDo
        rw [if_neg (by decide), if_neg (by decide), if_neg (by decide), if_neg (by decide), if_pos rfl, if_pos h, hp]
      rw [e]
      exact textUint_range k n s w hL hs h hp
  · have e : convDo 5 n s = (0, 0, ⟨#[]⟩, 61) := by
      unfold convDo
      rw [if_neg (by decide), if_neg (by decide), if_neg (by decide), if_neg (by decide), if_pos rfl, if_neg h]
    rw [e]
    exact textUint_no k n s w hs (by simpa using h)
theorem do6 (k n : Int) (s : ByteArray) (hs : s.size ≤ 281474976710656) : DoIs 78 k n s (convDo 6 n s) := fun w hL => by
  by_cases h : isDigits (trimMinus s.data.toList) = true
  · rcases digits_parseInt h with ⟨v, hp⟩ | hp
    · have e : convDo 6 n s = (2, IntKind.u64.wrap v, ⟨#[]⟩, 0) := by
        unfold convDo
        rw [if_neg (by decide), if_neg (by decide), if_neg (by decide), if_neg (by decide), if_neg (by decide), if_pos rfl, if_pos h, hp]
      rw [e]
      exact textInt_ok k n s w v hs h hp
    · have e : convDo 6 n s = (0, 0, ⟨#[]⟩, 60) := by
        unfold convDo
        rw [if_neg (by decide), if_neg (by decide), if_neg (by decide), if_neg (by decide), if_neg (by decide), if_pos rfl, if_pos h, hp]
      rw [e]
      exact textInt_range k n s w hL hs h hp
  · have e : convDo 6 n s = (0, 0, ⟨#[]⟩, 61) := by
      unfold convDo
      rw [if_neg (by decide), if_neg (by decide), if_neg (by decide), if_neg (by decide), if_neg (by decide), if_pos rfl, if_neg h]
    rw [e]
    exact textInt_no k n s w hs (by simpa using h)
theorem do7 (k n : Int) (s : ByteArray) : DoIs 82 k n s (convDo 7 n s) := fun w _ =>
  Q.conv_ofTexts_3.calls k n s _ _ _ _ w rfl
theorem do8 (k n : Int) (s : ByteArray) : DoIs 84 k n s (convDo 8 n s) := fun w _ =>
  Q.conv_ofTexts_4.calls k n s _ _ _ _ w (by
    show Q.conv_ofTexts_4.f k n s = some (convDo 8 n s)
    have e : convDo 8 n s = (if s.toList = ([102, 97, 108, 115, 101] : List UInt8) then (3, 0, ⟨#[]⟩, 0) else if s.toList = ([116, 114, 117, 101] : List UInt8) then (3, 1, ⟨#[]⟩, 0) else (0, 0, ⟨#[]⟩, 63)) := rfl
    rw [e]
    unfold Q.conv_ofTexts_4.f
    by_cases c : s.toList = ([102, 97, 108, 115, 101] : List UInt8)
    · rw [if_pos c, if_pos c]; rfl
    · rw [if_neg c, if_neg c]
      by_cases c2 : s.toList = ([116, 114, 117, 101] : List UInt8)
      · rw [if_pos c2, if_pos c2]; rfl
      · rw [if_neg c2, if_neg c2]; rfl)
theorem do9 (k n : Int) (s : ByteArray) : DoIs 85 k n s (convDo 9 n s) := fun w _ =>
  Q.conv_others_1.calls k n s _ _ _ _ w rfl
theorem do10 (k n : Int) (s : ByteArray) : DoIs 86 k n s (convDo 10 n s) := fun w _ =>
  Q.conv_others_2.calls k n s _ _ _ _ w (by
    show Q.conv_others_2.f k n s = some (convDo 10 n s)
    have e : convDo 10 n s = (if n > 1 then (0, 0, ⟨#[]⟩, 60) else (3, n, ⟨#[]⟩, 0)) := rfl
    rw [e]
    unfold Q.conv_others_2.f
    by_cases c : n > 1
    · rw [if_pos c, if_pos c]; rfl
    · rw [if_neg c, if_neg c]; rfl)
theorem do11 (k n : Int) (s : ByteArray) : DoIs 88 k n s (convDo 11 n s) := fun w _ =>
  Q.conv_others_3.calls k n s _ _ _ _ w rfl
theorem do12 (k n : Int) (s : ByteArray) (hs : s.size ≤ 281474976710656) : DoIs 89 k n s (convDo 12 n s) := fun w _ =>
  Q.conv_others_4.calls (s.size + 1) k n s _ _ _ _ w (by
    show Q.conv_others_4.f (s.size + 1) k n s = some (convDo 12 n s)
    have e : convDo 12 n s = (if utfValid s = true then (4, 0, s, 0) else (0, 0, ⟨#[]⟩, 62)) := rfl
    rw [e]
    unfold Q.conv_others_4.f
    rw [valid_f s (by omega), Option.bind_some]
    by_cases c : utfValid s = true
    · rw [if_pos c, if_pos c]; rfl
    · rw [if_neg c, if_neg c]; rfl)

def conv_Apply.f (a0 a1_0 a1_1 : Int) (a1_2 : ByteArray) : Option (Int × Int × ByteArray × Int) :=
  if 0 ≤ a1_1 ∧ a1_1 < 18446744073709551616 ∧ a1_2.size ≤ 281474976710656 then some (convApply a0 a1_0 a1_1 a1_2) else none
theorem apply_calls (a0 k n : Int) (s : ByteArray) (w : World) (hL : Laid w) (h0 : 0 ≤ n) (h1 : n < 18446744073709551616) (hs : s.size ≤ 281474976710656) :
    Calls Tryz.prog 11 #[.int .i64 a0, .agg #[.int .i64 k, .int .u64 n, .string s]] w fun e w' => e = .returned (.tuple #[.agg #[.int .i64 (convApply a0 k n s).1, .int .u64 (convApply a0 k n s).2.1, .string (convApply a0 k n s).2.2.1], .int .i64 (convApply a0 k n s).2.2.2]) ∧ Below w.heap.size w w' := by
  by_cases c : a0 < 1 ∨ 12 < a0
  · have e : convApply a0 k n s = (0, 0, ⟨#[]⟩, 1) := if_pos (.inl c)
    rw [e]
    have := of_is a0
    rw [convD_no a0 c] at this
    exact apply_none k n s w a0 this
  have hv : ∀ b, validV k n s = b → ∀ w, Calls Tryz.prog 13 #[.agg #[.int .i64 k, .int .u64 n, .string s]] w fun e w' => e = .returned (.bool b) ∧ Below w.heap.size w w' := by
    rintro b rfl w
    exact kind_Valid.calls k n s _ w (if_pos (by omega))
  have hd : (convD a0).2.2.2.2 = true := by
    obtain ⟨x, rfl⟩ : ∃ x : Nat, a0 = x := ⟨a0.toNat, by omega⟩
    have h1 : 1 ≤ x := by omega
    have h2 : x ≤ 12 := by omega
    clear c hv
    match x, h1, h2 with
    | 1, _, _ | 2, _, _ | 3, _, _ | 4, _, _ | 5, _, _ | 6, _, _ | 7, _, _ | 8, _, _ | 9, _, _ | 10, _, _ | 11, _, _ | 12, _, _ => rfl
  by_cases v : validV k n s = false
  · have e : convApply a0 k n s = (0, 0, ⟨#[]⟩, 1) := if_pos (.inr (.inl v))
    rw [e]
    exact apply_bad k n s w a0 _ (of_is a0) hd (convD_one a0) (hv _ v)
  have v' : validV k n s = true := by simpa using v
  by_cases q : k ≠ (convD a0).1
  · have e : convApply a0 k n s = (0, 0, ⟨#[]⟩, 1) := if_pos (.inr (.inr q))
    rw [e]
    exact apply_kind k n s w a0 _ (of_is a0) hd (convD_one a0) (hv _ v') (bne_iff_ne.2 q)
  have q' : k = (convD a0).1 := Decidable.not_not.1 q
  have e : convApply a0 k n s = convDo a0 n s := if_neg (by
    rintro (h | h | h)
    · exact c h
    · exact v h
    · exact q h)
  rw [e]
  have hof := of_is a0
  clear e hd q v
  obtain ⟨x, rfl⟩ : ∃ x : Nat, a0 = x := ⟨a0.toNat, by omega⟩
  have g1 : 1 ≤ x := by omega
  have g2 : x ≤ 12 := by omega
  clear c
  match x, g1, g2 with
  | 1, _, _ => exact apply_1 k n s w _ _ _ _ hL hof (hv _ v') (bne_eq_false_iff_eq.2 q') (do1 k n s)
  | 2, _, _ => exact apply_2 k n s w _ _ _ _ hL hof (hv _ v') (bne_eq_false_iff_eq.2 q') (do2 k n s h0 h1)
  | 3, _, _ => exact apply_3 k n s w _ _ _ _ hL hof (hv _ v') (bne_eq_false_iff_eq.2 q') (do3 k n s h0 h1)
  | 4, _, _ => exact apply_4 k n s w _ _ _ _ hL hof (hv _ v') (bne_eq_false_iff_eq.2 q') (do4 k n s)
  | 5, _, _ => exact apply_5 k n s w _ _ _ _ hL hof (hv _ v') (bne_eq_false_iff_eq.2 q') (do5 k n s hs)
  | 6, _, _ => exact apply_6 k n s w _ _ _ _ hL hof (hv _ v') (bne_eq_false_iff_eq.2 q') (do6 k n s hs)
  | 7, _, _ => exact apply_7 k n s w _ _ _ _ hL hof (hv _ v') (bne_eq_false_iff_eq.2 q') (do7 k n s)
  | 8, _, _ => exact apply_8 k n s w _ _ _ _ hL hof (hv _ v') (bne_eq_false_iff_eq.2 q') (do8 k n s)
  | 9, _, _ => exact apply_9 k n s w _ _ _ _ hL hof (hv _ v') (bne_eq_false_iff_eq.2 q') (do9 k n s)
  | 10, _, _ => exact apply_10 k n s w _ _ _ _ hL hof (hv _ v') (bne_eq_false_iff_eq.2 q') (do10 k n s)
  | 11, _, _ => exact apply_11 k n s w _ _ _ _ hL hof (hv _ v') (bne_eq_false_iff_eq.2 q') (do11 k n s)
  | 12, _, _ => exact apply_12 k n s w _ _ _ _ hL hof (hv _ v') (bne_eq_false_iff_eq.2 q') (do12 k n s hs)
theorem conv_Apply.calls (a0 a1_0 a1_1 : Int) (a1_2 : ByteArray) (r1 r2 : Int) (r3 : ByteArray) (r4 : Int) (w : World) (hL : Laid w) (h : conv_Apply.f a0 a1_0 a1_1 a1_2 = some (r1, r2, r3, r4)) :
    Calls Tryz.prog 11 #[.int .i64 a0, .agg #[.int .i64 a1_0, .int .u64 a1_1, .string a1_2]] w fun e w' => e = .returned (.tuple #[.agg #[.int .i64 r1, .int .u64 r2, .string r3], .int .i64 r4]) ∧ Below w.heap.size w w' := by
  unfold conv_Apply.f at h
  split at h
  · rename_i c
    have e := Option.some.inj h
    have := apply_calls a0 a1_0 a1_1 a1_2 w hL c.1 c.2.1 c.2.2
    rw [e] at this
    exact this
  · cases h

/-! ### The table's answers, in the print's form -/
def conv_From.f (a0 : Int) : Option Int := some (convD a0).1
theorem conv_From.calls (a0 r : Int) (w : World) (h : conv_From.f a0 = some r) : Calls Tryz.prog 14 #[.int .i64 a0] w fun e w' => e = .returned (.int .i64 r) ∧ Below w.heap.size w w' := by
  obtain rfl := Option.some.inj h
  exact from_of a0 _ (of_is a0) (convD_one a0) w
def conv_To.f (a0 : Int) : Option Int := some (convD a0).2.1
theorem conv_To.calls (a0 r : Int) (w : World) (h : conv_To.f a0 = some r) : Calls Tryz.prog 16 #[.int .i64 a0] w fun e w' => e = .returned (.int .i64 r) ∧ Below w.heap.size w w' := by
  obtain rfl := Option.some.inj h
  exact to_of a0 _ (of_is a0) (convD_one a0) w
def conv_Sure.f (a0 : Int) : Option Bool := some (convD a0).2.2.1
theorem conv_Sure.calls (a0 : Int) (r : Bool) (w : World) (h : conv_Sure.f a0 = some r) : Calls Tryz.prog 15 #[.int .i64 a0] w fun e w' => e = .returned (.bool r) ∧ Below w.heap.size w w' := by
  obtain rfl := Option.some.inj h
  exact sure_of a0 _ (of_is a0) (convD_one a0) w
def conv_Between.f (a0 a1 : Int) : Option Int := some (between a0 a1)
theorem conv_Between.calls (a0 a1 r : Int) (w : World) (h : conv_Between.f a0 a1 = some r) : Calls Tryz.prog 17 #[.int .i64 a0, .int .i64 a1] w fun e w' => e = .returned (.int .i64 r) ∧ Below w.heap.size w w' := by
  obtain rfl := Option.some.inj h
  exact between_any a0 a1 w
def kind_Name.f (a0 : Int) : Option ByteArray := some (kname a0)
theorem kind_Name.calls (a0 : Int) (r : ByteArray) (w : World) (h : kind_Name.f a0 = some r) : Calls Tryz.prog 53 #[.int .i64 a0] w fun e w' => e = .returned (.string r) ∧ Below w.heap.size w w' := by
  obtain rfl := Option.some.inj h
  exact kname_any a0 w
def conv_ahead.f : Option Int := some 5
set_option maxRecDepth 100000 in
theorem conv_ahead.calls (r : Int) (w : World) (h : conv_ahead.f = some r) : Calls Tryz.prog 43 #[] w fun e w' => e = .returned (.int .i64 r) ∧ Below w.heap.size w w' := by
  obtain rfl := Option.some.inj h
  go_enter Tryz.func43, Tryz.ntmps43
  go_wp2_with (first
    | (go_at_call 60; refine (kentries_any _).mono ?_; rintro e w1 ⟨g, rfl, _, _, hb⟩)
    | go_in)
  go_ret
  exact ⟨rfl, hb⟩
end Go.Proofs.YthfhkfebkpdkcaaGreatDoor
