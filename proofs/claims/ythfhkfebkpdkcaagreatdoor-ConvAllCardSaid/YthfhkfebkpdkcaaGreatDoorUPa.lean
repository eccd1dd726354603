/- kind.Valid answers a plain function; the plain functions of the conversions; no condition but the size of a text. -/
import Derived.Test.YthfhkfebkpdkcaaGreatDoorUDig
import Derived.Test.YthfhkfebkpdkcaaGreatDoorUQ
import Derived.Outline
namespace Go.Proofs.YthfhkfebkpdkcaaGreatDoor
open Go.RowKit Go.Lib

/-! ### The plain functions -/
/-- The place of the first byte at which no character stands; fuel first. -/
def faultN (s : ByteArray) : Nat → Nat → Nat
  | 0, i => i
  | f + 1, i => if i < s.size then (if (utfNext (s.extract i s.size)).1 < 0 then i else faultN s f (i + (utfNext (s.extract i s.size)).2.toNat)) else i
def utfFault (s : ByteArray) : Nat := faultN s (s.size + 1) 0
def utfValid (s : ByteArray) : Bool := decide (utfFault s = s.size)
def validV (k n : Int) (s : ByteArray) : Bool :=
  if k = 1 ∨ k = 2 then s.toList == ([] : List UInt8) else if k = 3 then decide (n ≤ 1) && (s.toList == ([] : List UInt8)) else if k = 4 then decide (n = 0) && utfValid s else if k = 5 then n == 0 else false

theorem utfNext_small (s : ByteArray) (h : ¬ (utfNext s).1 < 0) : 1 ≤ (utfNext s).2 ∧ (utfNext s).2 ≤ s.size := by
  unfold utfNext at h ⊢
  by_cases z : s.size = 0
  · rw [if_pos z] at h
    exact absurd (by decide) h
  rw [if_neg z] at h ⊢
  by_cases a : nb s 0 < 128
  · rw [if_pos a]
    exact ⟨by show (1 : Int) ≤ 1; omega, by show (1 : Int) ≤ _; omega⟩
  rw [if_neg a] at h ⊢
  have fin : ∀ c n l : Nat, ¬ (utfFin c n l).1 < 0 → (utfFin c n l).2 = n := by
    intro c n l hh
    unfold utfFin at hh ⊢
    split
    · rfl
    · rename_i q
      rw [if_neg q] at hh
      exact absurd (by decide) hh
  repeat' split at h
  all_goals first
    | (exact absurd (by decide) h)
    | skip
  · rename_i q1 q2
    rw [if_pos q1, if_pos q2, fin _ _ _ h]
    omega
  · rename_i q0 q1 q2
    rw [if_neg q0, if_pos q1, if_pos q2, fin _ _ _ h]
    omega
  · rename_i q00 q0 q1 q2
    rw [if_neg q00, if_neg q0, if_pos q1, if_pos q2, fin _ _ _ h]
    omega

theorem fault_l0 (s : ByteArray) (hs : s.size ≤ 9223372036854775807) : ∀ (k i : Nat), i ≤ s.size → s.size - i < k → Q.utf_Fault.l0 k s (i : Int) = some (faultN s k i : Int)
  | 0, i, _, h => absurd h (by omega)
  | k + 1, i, hi, hk => by
    rw [Q.utf_Fault.l0, faultN]
    by_cases h : i < s.size
    · rw [if_pos (by omega), if_pos (by omega), if_pos (by omega), if_pos h]
      unfold utf_Next.f
      rw [Option.bind_some, Int.toNat_natCast]
      by_cases c : (utfNext (s.extract i s.size)).1 < 0
      · rw [if_pos c, if_pos c]
      · rw [if_neg c, if_neg c]
        obtain ⟨h1, h2⟩ := utfNext_small _ c
        have hx : (s.extract i s.size).size = s.size - i := by simp
        rw [hx] at h2
        have e : wrap64 ((i : Int) + (utfNext (s.extract i s.size)).2) = ((i + (utfNext (s.extract i s.size)).2.toNat : Nat) : Int) := by unfold wrap64; omega
        rw [e]
        exact fault_l0 s hs k _ (by omega) (by omega)
    · rw [if_neg (by omega), if_neg h]
theorem valid_f (s : ByteArray) (hs : s.size ≤ 9223372036854775807) : Q.utf_Valid.f (s.size + 1) s = some (utfValid s) := by
  unfold Q.utf_Valid.f Q.utf_Fault.f
  have := fault_l0 s hs (s.size + 1) 0 (by omega) (by omega)
  rw [show (0 : Int) = ((0 : Nat) : Int) from rfl, this, Option.bind_some]
  unfold utfValid utfFault
  congr 1
  rw [Bool.eq_iff_iff, beq_iff_eq, decide_eq_true_iff]
  omega
theorem kvalid_f (k n : Int) (s : ByteArray) (hs : s.size ≤ 9223372036854775807) : Q.kind_Valid.f (s.size + 2) k n s = some (validV k n s) := by
  unfold Q.kind_Valid.f validV
  by_cases h1 : k = 1
  · rw [if_pos h1, if_pos (.inl h1), h1]
    simp [Q.kind_Valid.j0]
  rw [if_neg h1]
  by_cases h2 : k = 2
  · rw [if_pos (.inr h2), h2]
    simp [Q.kind_Valid.j0]
  have e : (k == 2) = false := beq_eq_false_iff_ne.2 h2
  rw [if_neg (by rintro (h | h); exact h1 h; exact h2 h), e, Q.kind_Valid.j0]
  rw [if_neg (by decide)]
  by_cases h3 : k = 3
  · rw [if_pos h3, if_pos h3]
    by_cases c : n ≤ 1
    · rw [if_pos c, decide_eq_true c, Bool.true_and]
    · rw [if_neg c, decide_eq_false c, Bool.false_and]
  rw [if_neg h3, if_neg h3]
  by_cases h4 : k = 4
  · rw [if_pos h4, if_pos h4]
    by_cases c : n = 0
    · rw [if_pos c, valid_f s hs, Option.bind_some, decide_eq_true c, Bool.true_and]
    · rw [if_neg c, decide_eq_false c, Bool.false_and]
  rw [if_neg h4, if_neg h4]
  by_cases h5 : k = 5
  · rw [if_pos h5, if_pos h5]
  · rw [if_neg h5, if_neg h5]

/-- kind.Valid, for the second print. -/
def kind_Valid.f (a0_0 a0_1 : Int) (a0_2 : ByteArray) : Option Bool := if a0_2.size ≤ 9223372036854775807 then some (validV a0_0 a0_1 a0_2) else none
theorem kind_Valid.calls (a0_0 a0_1 : Int) (a0_2 : ByteArray) (r : Bool) (w : World) (h : kind_Valid.f a0_0 a0_1 a0_2 = some r) :
    Calls Tryz.prog 13 #[.agg #[.int .i64 a0_0, .int .u64 a0_1, .string a0_2]] w fun e w' => e = .returned (.bool r) ∧ Below w.heap.size w w' := by
  unfold kind_Valid.f at h
  split at h
  · rename_i hs
    exact Q.kind_Valid.calls _ a0_0 a0_1 a0_2 r w ((kvalid_f _ _ _ hs).trans h)
  · cases h

/-- What conversion number x does. -/
def convDo (x n : Int) (s : ByteArray) : Int × Int × ByteArray × Int :=
  if x = 1 then (if n > 9223372036854775807 then (0, 0, ⟨#[]⟩, 60) else (2, n, ⟨#[]⟩, 0))
  else if x = 2 then (if n > 9223372036854775807 then (0, 0, ⟨#[]⟩, 60) else (1, n, ⟨#[]⟩, 0))
  else if x = 3 then (4, 0, ⟨(Lib.decDigits n.toNat).toArray⟩, 0)
  else if x = 4 then (4, 0, ⟨(Lib.itoa (wrap64 n)).toArray⟩, 0)
  else if x = 5 then (if isDigits s.data.toList = true then (match Lib.parseUintB 64 s.data.toList with
    | .ok u => (1, (u : Int), ⟨#[]⟩, 0)
    | _ => (0, 0, ⟨#[]⟩, 60)) else (0, 0, ⟨#[]⟩, 61))
  else if x = 6 then (if isDigits (trimMinus s.data.toList) = true then (match Lib.parseIntB 64 s.data.toList with
    | .ok v => (2, IntKind.u64.wrap v, ⟨#[]⟩, 0)
    | _ => (0, 0, ⟨#[]⟩, 60)) else (0, 0, ⟨#[]⟩, 61))
  else if x = 7 then (4, 0, ⟨(Lib.formatBool (n == 1)).toArray⟩, 0)
  else if x = 8 then (if s.toList = ([102, 97, 108, 115, 101] : List UInt8) then (3, 0, ⟨#[]⟩, 0) else if s.toList = ([116, 114, 117, 101] : List UInt8) then (3, 1, ⟨#[]⟩, 0) else (0, 0, ⟨#[]⟩, 63))
  else if x = 9 then (1, n, ⟨#[]⟩, 0)
  else if x = 10 then (if n > 1 then (0, 0, ⟨#[]⟩, 60) else (3, n, ⟨#[]⟩, 0))
  else if x = 11 then (5, 0, s, 0)
  else (if utfValid s = true then (4, 0, s, 0) else (0, 0, ⟨#[]⟩, 62))
def convApply (x k n : Int) (s : ByteArray) : Int × Int × ByteArray × Int :=
  if (x < 1 ∨ 12 < x) ∨ validV k n s = false ∨ k ≠ (convD x).1 then (0, 0, ⟨#[]⟩, 1) else convDo x n s
/-- What the call of a conversion comes to. -/
def DoIs (f : FuncId) (k n : Int) (s : ByteArray) (r : Int × Int × ByteArray × Int) : Prop := ∀ w, Laid w → Calls Tryz.prog f #[.agg #[.int .i64 k, .int .u64 n, .string s]] w fun e w' => e = .returned (.tuple #[.agg #[.int .i64 r.1, .int .u64 r.2.1, .string r.2.2.1], .int .i64 r.2.2.2]) ∧ Below w.heap.size w w'

theorem parse_gen (M : Nat) : ∀ (l : List UInt8) (acc : Nat), (∀ c ∈ l, isDig c = true) → (∃ u, Lib.parseUintM M acc l = .ok u) ∨ Lib.parseUintM M acc l = .range
  | [], acc, _ => .inl ⟨acc, rfl⟩
  | c :: r, acc, hc => by
    have hd := hc c (by simp)
    unfold isDig at hd
    simp only [Bool.and_eq_true, decide_eq_true_eq] at hd
    rw [Lib.parseUintM, if_pos hd]
    split
    · exact .inr rfl
    · split
      · exact .inr rfl
      · exact parse_gen M r _ fun x hx => hc x (by simp [hx])
theorem digits_parse {l : List UInt8} (h : isDigits l = true) : (∃ u, Lib.parseUintB 64 l = .ok u) ∨ Lib.parseUintB 64 l = .range := by
  unfold isDigits at h
  simp only [Bool.and_eq_true, Bool.not_eq_true', List.all_eq_true] at h
  obtain ⟨hne, hall⟩ := h
  unfold Lib.parseUintB
  rw [if_neg (by intro e; rw [e] at hne; simp at hne)]
  exact parse_gen _ l 0 hall
theorem signed_some (C : Nat) {x : Lib.NumEnd Nat} (h : (∃ u, x = .ok u) ∨ x = .range) : (∃ v, Lib.signedC C x = .ok v) ∨ Lib.signedC C x = .range := by
  rcases h with ⟨u, rfl⟩ | rfl
  · unfold Lib.signedC
    simp only
    split
    · exact .inr rfl
    · exact .inl ⟨_, rfl⟩
  · exact .inr rfl
theorem signless_some (C : Nat) {x : Lib.NumEnd Nat} (h : (∃ u, x = .ok u) ∨ x = .range) : (∃ v, Lib.signlessC C x = .ok v) ∨ Lib.signlessC C x = .range := by
  rcases h with ⟨u, rfl⟩ | rfl
  · unfold Lib.signlessC
    simp only
    split
    · exact .inr rfl
    · exact .inl ⟨_, rfl⟩
  · exact .inr rfl
theorem trimMinus_neg (r : List UInt8) : trimMinus (45 :: r) = r := by simp [trimMinus, Lib.trimPrefix, Lib.hasPrefix]
theorem trimMinus_plain (c : UInt8) (r : List UInt8) (h : c ≠ 45) : trimMinus (c :: r) = c :: r := by
  unfold trimMinus Lib.trimPrefix
  rw [if_neg]
  simp [Lib.hasPrefix]
  intro q
  exact h q.symm
theorem digits_parseInt {l : List UInt8} (h : isDigits (trimMinus l) = true) : (∃ v, Lib.parseIntB 64 l = .ok v) ∨ Lib.parseIntB 64 l = .range := by
  match l, h with
  | [], h => simp [trimMinus, Lib.trimPrefix, Lib.hasPrefix, isDigits] at h
  | c :: r, h =>
    by_cases c45 : c = 45
    · subst c45
      rw [trimMinus_neg] at h
      rw [Lib.parseIntB_minus]
      exact signed_some _ (digits_parse h)
    · rw [trimMinus_plain c r c45] at h
      have hd : isDig c = true := by
        unfold isDigits at h
        simp only [List.all_cons, Bool.and_eq_true] at h
        exact h.2.1
      unfold isDig at hd
      simp only [Bool.and_eq_true, decide_eq_true_eq] at hd
      rw [Lib.parseIntB_plain _ _ _ (by omega) (by omega)]
      exact signless_some _ (digits_parse h)
end Go.Proofs.YthfhkfebkpdkcaaGreatDoor
