/- The number that digits write; what each conversion makes or refuses, for every valid value; no condition. -/
import Derived.Test.YthfhkfebkpdkcaaGreatDoorApply
import Derived.Stop.FmtTextWidths
namespace Go.Proofs.YthfhkfebkpdkcaaGreatDoor
open Go.RowKit Go.Lib

/-! ### The number that digits write -/
def dval : Nat → List UInt8 → Nat
  | acc, [] => acc
  | acc, c :: r => dval (acc * 10 + (c.toNat - 48)) r
theorem dval_nil (acc : Nat) : dval acc [] = acc := by unfold dval; rfl
theorem dval_cons (acc : Nat) (c : UInt8) (r : List UInt8) : dval acc (c :: r) = dval (acc * 10 + (c.toNat - 48)) r := by conv => lhs; unfold dval
theorem dval_ge : ∀ (l : List UInt8) (acc : Nat), acc ≤ dval acc l
  | [], acc => by rw [dval_nil]; exact Nat.le_refl _
  | c :: r, acc => by
    rw [dval_cons]
    exact Nat.le_trans (by omega) (dval_ge r (acc * 10 + (c.toNat - 48)))
theorem dval_append : ∀ (a b : List UInt8) (acc : Nat), dval acc (a ++ b) = dval (dval acc a) b
  | [], b, acc => by rw [dval_nil, List.nil_append]
  | c :: r, b, acc => by rw [dval_cons, List.cons_append, dval_cons, dval_append r b]
theorem parse_val : ∀ (l : List UInt8) (acc : Nat), (∀ c ∈ l, isDig c = true) → acc ≤ 18446744073709551615 →
    Lib.parseUintM 18446744073709551615 acc l = if dval acc l ≤ 18446744073709551615 then .ok (dval acc l) else .range
  | [], acc, _, ha => by rw [Lib.parseUintM, dval_nil, if_pos ha]
  | c :: r, acc, hc, ha => by
    have hd := hc c (by simp)
    unfold isDig at hd
    simp only [Bool.and_eq_true, decide_eq_true_eq] at hd
    have g := dval_ge r (acc * 10 + (c.toNat - 48))
    rw [Lib.parseUintM, if_pos hd, dval_cons]
    by_cases h1 : 1844674407370955162 ≤ acc
    · rw [if_pos h1, if_neg (by omega)]
    rw [if_neg h1]
    by_cases h2 : 18446744073709551615 < acc * 10 + (c.toNat - 48)
    · rw [if_pos h2, if_neg (by omega)]
    rw [if_neg h2]
    exact parse_val r _ (fun x hx => hc x (by simp [hx])) (by omega)
theorem parse_digits {l : List UInt8} (h : isDigits l = true) : Lib.parseUintB 64 l = if dval 0 l ≤ 18446744073709551615 then .ok (dval 0 l) else .range := by
  unfold isDigits at h
  simp only [Bool.and_eq_true, Bool.not_eq_true', List.all_eq_true] at h
  obtain ⟨hne, hall⟩ := h
  unfold Lib.parseUintB
  rw [if_neg (by intro e; rw [e] at hne; simp at hne)]
  exact parse_val l 0 hall (by omega)
theorem dig_dec (n : Nat) (h : n < 10) : isDig (UInt8.ofNat (48 + n)) = true ∧ (UInt8.ofNat (48 + n)).toNat - 48 = n := by
  unfold isDig
  simp
  omega
theorem dec_all : ∀ n : Nat, ∀ c ∈ Lib.decDigits n, isDig c = true := by
  intro n
  induction n using Nat.strongRecOn with
  | _ n ih =>
    intro c hc
    rw [Lib.decDigits] at hc
    split at hc
    · rename_i h
      rw [List.mem_singleton] at hc
      rw [hc]
      exact (dig_dec n h).1
    · rename_i h
      rcases List.mem_append.1 hc with hc | hc
      · exact ih (n / 10) (by omega) c hc
      · rw [List.mem_singleton] at hc
        rw [hc]
        exact (dig_dec _ (by omega)).1
theorem dec_val : ∀ n : Nat, dval 0 (Lib.decDigits n) = n := by
  intro n
  induction n using Nat.strongRecOn with
  | _ n ih =>
    rw [Lib.decDigits]
    split
    · rename_i h
      rw [dval_cons, dval_nil, (dig_dec n h).2]
      omega
    · rename_i h
      rw [dval_append, ih (n / 10) (by omega), dval_cons, dval_nil, (dig_dec _ (by omega)).2]
      omega
theorem dec_ne (n : Nat) : Lib.decDigits n ≠ [] := by
  rw [Lib.decDigits]
  split <;> simp
theorem dec_is (n : Nat) : isDigits (Lib.decDigits n) = true := by
  unfold isDigits
  have e : (Lib.decDigits n).isEmpty = false := by
    have := dec_ne n
    cases h : Lib.decDigits n with
    | nil => exact absurd h this
    | cons _ _ => rfl
  rw [e, List.all_eq_true.2 (dec_all n)]
  rfl
theorem dec_len : ∀ (k n : Nat), n < 10 ^ (k + 1) → (Lib.decDigits n).length ≤ k + 1
  | 0, n, h => by
    rw [Lib.decDigits, dif_pos (by omega)]
    exact Nat.le_refl _
  | k + 1, n, h => by
    rw [Lib.decDigits]
    split
    · simp
    · rw [List.length_append]
      have := dec_len k (n / 10) (by rw [Nat.pow_succ] at h; omega)
      simp only [List.length_singleton]
      omega
theorem dec_small {n : Nat} (h : n < 18446744073709551616) : (Lib.decDigits n).length ≤ 20 := dec_len 19 n (Nat.lt_trans h (by decide))
theorem parse_dec {n : Nat} (h : n < 18446744073709551616) : Lib.parseUintB 64 (Lib.decDigits n) = .ok n := by
  rw [parse_digits (dec_is n), dec_val, if_pos (by omega)]

/-! ### Signed numbers -/
theorem dec_first (n : Nat) : ∃ c r, Lib.decDigits n = c :: r ∧ isDig c = true := by
  have h := dec_ne n
  have a := dec_all n
  cases e : Lib.decDigits n with
  | nil => exact absurd e h
  | cons c r => exact ⟨c, r, rfl, a c (by rw [e]; simp)⟩
theorem dig_bounds {c : UInt8} (h : isDig c = true) : 48 ≤ c.toNat ∧ c.toNat ≤ 57 := by
  unfold isDig at h
  simpa only [Bool.and_eq_true, decide_eq_true_eq] using h
theorem dig_not_minus {c : UInt8} (h : isDig c = true) : c ≠ 45 := by
  intro e
  rw [e] at h
  exact absurd h (by decide)
theorem trim_digits {l : List UInt8} (h : isDigits l = true) : trimMinus l = l := by
  match l, h with
  | [], h => simp [isDigits] at h
  | c :: r, h =>
    refine trimMinus_plain c r (dig_not_minus ?_)
    unfold isDigits at h
    simp only [List.all_cons, Bool.and_eq_true] at h
    exact h.2.1
theorem trim_itoa (v : Int) : trimMinus (Lib.itoa v) = Lib.decDigits v.natAbs := by
  unfold Lib.itoa
  split
  · rw [trimMinus_neg]
  · have e : v.toNat = v.natAbs := by omega
    rw [e, trim_digits (dec_is _)]
theorem parseInt_plain {l : List UInt8} (h : isDigits l = true) : Lib.parseIntB 64 l = Lib.signlessC 9223372036854775808 (Lib.parseUintB 64 l) := by
  match l, h with
  | [], h => simp [isDigits] at h
  | c :: r, h =>
    have hd : isDig c = true := by
      unfold isDigits at h
      simp only [List.all_cons, Bool.and_eq_true] at h
      exact h.2.1
    have b := dig_bounds hd
    rw [Lib.parseIntB_plain _ _ _ (by omega) (by omega)]
theorem parse_itoa (v : Int) (h0 : -9223372036854775808 ≤ v) (h1 : v ≤ 9223372036854775807) : Lib.parseIntB 64 (Lib.itoa v) = .ok v := by
  unfold Lib.itoa
  split
  · rw [Lib.parseIntB_minus, parse_dec (by omega)]
    unfold Lib.signedC
    simp only
    rw [if_neg (by omega)]
    congr 1
    omega
  · rw [parseInt_plain (dec_is _), parse_dec (by omega)]
    unfold Lib.signlessC
    simp only
    rw [if_neg (by omega)]
    congr 1
    omega
theorem itoa_small (v : Int) (h0 : -9223372036854775808 ≤ v) (h1 : v ≤ 9223372036854775807) : (Lib.itoa v).length ≤ 21 := by
  unfold Lib.itoa
  split
  · have := dec_small (n := v.natAbs) (by omega)
    rw [List.length_cons]
    omega
  · have := dec_small (n := v.toNat) (by omega)
    omega
theorem itoa_ascii (v : Int) : ∀ c ∈ Lib.itoa v, c.toNat < 128 := by
  intro c hc
  unfold Lib.itoa at hc
  split at hc
  · rcases List.mem_cons.1 hc with h | h
    · rw [h]; decide
    · have := dig_bounds (dec_all _ c h); omega
  · have := dig_bounds (dec_all _ c hc); omega
theorem dec_ascii (n : Nat) : ∀ c ∈ Lib.decDigits n, c.toNat < 128 := fun c hc => by have := dig_bounds (dec_all _ c hc); omega
theorem wrapU_bounds (v : Int) : 0 ≤ IntKind.u64.wrap v ∧ IntKind.u64.wrap v < 18446744073709551616 := by
  simp only [IntKind.wrap, IntKind.bits, IntKind.signed, Bool.false_and, Bool.false_eq_true, if_false]
  omega
theorem wrapU_wrap (n : Int) (h0 : 0 ≤ n) (h1 : n < 18446744073709551616) : IntKind.u64.wrap (wrap64 n) = n := by
  simp only [IntKind.wrap, IntKind.bits, IntKind.signed, Bool.false_and, Bool.false_eq_true, if_false, wrap64]
  omega

/-! ### Texts of bytes below 128 -/
theorem nb_extract (s : ByteArray) (i : Nat) (h : i < s.size) : nb (s.extract i s.size) 0 = nb s i := by
  have h1 : 0 < (s.extract i s.size).size := by simp; omega
  rw [← nb_eq _ 0 h1, ← nb_eq s i h, ByteArray.getElem_extract]
  simp
theorem nb_ascii {s : ByteArray} (hs : ∀ c ∈ s.data.toList, c.toNat < 128) (i : Nat) (h : i < s.size) : nb s i < 128 := by
  rw [← nb_eq s i h]
  exact hs _ (by
    have : s[i] = s.data.toList[i]'(by simpa using h) := by simp [ByteArray.getElem_eq_getElem_data]
    rw [this]
    exact List.getElem_mem _)
theorem fault_ascii {s : ByteArray} (hs : ∀ c ∈ s.data.toList, c.toNat < 128) : ∀ (f i : Nat), i ≤ s.size → s.size - i < f → faultN s f i = s.size
  | 0, i, _, h => absurd h (by omega)
  | f + 1, i, hi, hf => by
    rw [faultN]
    by_cases h : i < s.size
    · have hz : ¬ (s.extract i s.size).size = 0 := by simp; omega
      have hb : nb (s.extract i s.size) 0 < 128 := by rw [nb_extract s i h]; exact nb_ascii hs i h
      have e : utfNext (s.extract i s.size) = (((nb (s.extract i s.size) 0 : Nat) : Int), 1) := by
        unfold utfNext
        rw [if_neg hz, if_pos hb]
      rw [if_pos h, e, if_neg (by show ¬ ((_ : Nat) : Int) < 0; omega)]
      exact fault_ascii hs f (i + 1) (by omega) (by omega)
    · rw [if_neg h]
      omega
theorem ascii_valid {s : ByteArray} (hs : ∀ c ∈ s.data.toList, c.toNat < 128) : utfValid s = true :=
  decide_eq_true (fault_ascii hs (s.size + 1) 0 (by omega) (by omega))
theorem ascii_list {l : List UInt8} (h : ∀ c ∈ l, c.toNat < 128) : utfValid ⟨l.toArray⟩ = true := ascii_valid (s := ⟨l.toArray⟩) (by simpa using h)

/-! ### What a conversion makes -/
theorem validV_num {k n : Int} (h : k = 1 ∨ k = 2) : validV k n ⟨#[]⟩ = true := by
  unfold validV
  rw [if_pos h]
  kernel_rfl
theorem validV_bool {n : Int} (h : n ≤ 1) : validV 3 n ⟨#[]⟩ = true := by
  unfold validV
  rw [if_neg (by decide), if_pos rfl, decide_eq_true h]
  kernel_rfl
theorem validV_text (s : ByteArray) : validV 4 0 s = utfValid s := by
  unfold validV
  rw [if_neg (by decide), if_neg (by decide), if_pos rfl, decide_eq_true rfl, Bool.true_and]
theorem validV_raw (s : ByteArray) : validV 5 0 s = true := by
  unfold validV
  rw [if_neg (by decide), if_neg (by decide), if_neg (by decide), if_pos rfl]
  rfl
theorem nil_of {s : ByteArray} (h : (s.toList == ([] : List UInt8)) = true) : s = ⟨#[]⟩ := by
  have e : s.data.toList = [] := by rw [← Lib.toList_data]; simpa using h
  cases s with | mk d => cases d; simp at e; rw [e]
theorem num_nil {k n : Int} {s : ByteArray} (hk : k = 1 ∨ k = 2) (h : validV k n s = true) : s = ⟨#[]⟩ := by
  unfold validV at h
  rw [if_pos hk] at h
  exact nil_of h
theorem bool_nil {n : Int} {s : ByteArray} (h : validV 3 n s = true) : n ≤ 1 ∧ s = ⟨#[]⟩ := by
  unfold validV at h
  rw [if_neg (by decide), if_pos rfl, Bool.and_eq_true, decide_eq_true_eq] at h
  exact ⟨h.1, nil_of h.2⟩
theorem text_zero {n : Int} {s : ByteArray} (h : validV 4 n s = true) : n = 0 ∧ utfValid s = true := by
  unfold validV at h
  rw [if_neg (by decide), if_neg (by decide), if_pos rfl, Bool.and_eq_true, decide_eq_true_eq] at h
  exact h
theorem raw_zero {n : Int} {s : ByteArray} (h : validV 5 n s = true) : n = 0 := by
  unfold validV at h
  rw [if_neg (by decide), if_neg (by decide), if_neg (by decide), if_pos rfl] at h
  simpa using h
theorem form_true : utfValid ⟨(Lib.formatBool true).toArray⟩ = true := by kernel_rfl
theorem form_false : utfValid ⟨(Lib.formatBool false).toArray⟩ = true := by kernel_rfl
theorem form_valid (b : Bool) : utfValid ⟨(Lib.formatBool b).toArray⟩ = true := by cases b; exact form_false; exact form_true
theorem form_small (b : Bool) : (⟨(Lib.formatBool b).toArray⟩ : ByteArray).size ≤ 5 := by cases b <;> decide +kernel

theorem conv5_ok (n : Int) {s : ByteArray} {u : Nat} (d : isDigits s.data.toList = true) (hp : Lib.parseUintB 64 s.data.toList = .ok u) : convDo 5 n s = (1, (u : Int), ⟨#[]⟩, 0) := by
  unfold convDo
  rw [if_neg (by decide), if_neg (by decide), if_neg (by decide), if_neg (by decide), if_pos rfl, if_pos d, hp]
theorem conv5_range (n : Int) {s : ByteArray} (d : isDigits s.data.toList = true) (hp : Lib.parseUintB 64 s.data.toList = .range) : convDo 5 n s = (0, 0, ⟨#[]⟩, 60) := by
  unfold convDo
  rw [if_neg (by decide), if_neg (by decide), if_neg (by decide), if_neg (by decide), if_pos rfl, if_pos d, hp]
theorem conv5_no (n : Int) {s : ByteArray} (d : ¬ isDigits s.data.toList = true) : convDo 5 n s = (0, 0, ⟨#[]⟩, 61) := by
  unfold convDo
  rw [if_neg (by decide), if_neg (by decide), if_neg (by decide), if_neg (by decide), if_pos rfl, if_neg d]
theorem conv6_ok (n : Int) {s : ByteArray} {v : Int} (d : isDigits (trimMinus s.data.toList) = true) (hp : Lib.parseIntB 64 s.data.toList = .ok v) : convDo 6 n s = (2, IntKind.u64.wrap v, ⟨#[]⟩, 0) := by
  unfold convDo
  rw [if_neg (by decide), if_neg (by decide), if_neg (by decide), if_neg (by decide), if_neg (by decide), if_pos rfl, if_pos d, hp]
theorem conv6_range (n : Int) {s : ByteArray} (d : isDigits (trimMinus s.data.toList) = true) (hp : Lib.parseIntB 64 s.data.toList = .range) : convDo 6 n s = (0, 0, ⟨#[]⟩, 60) := by
  unfold convDo
  rw [if_neg (by decide), if_neg (by decide), if_neg (by decide), if_neg (by decide), if_neg (by decide), if_pos rfl, if_pos d, hp]
theorem conv6_no (n : Int) {s : ByteArray} (d : ¬ isDigits (trimMinus s.data.toList) = true) : convDo 6 n s = (0, 0, ⟨#[]⟩, 61) := by
  unfold convDo
  rw [if_neg (by decide), if_neg (by decide), if_neg (by decide), if_neg (by decide), if_neg (by decide), if_pos rfl, if_neg d]

/-- A good answer: a valid value of the conversion's kind, of at most the old size or 21 bytes. -/
structure Made (x : Int) (s : ByteArray) (r : Int × Int × ByteArray × Int) : Prop where
  ok : r.2.2.2 = 0
  kind : r.1 = (convD x).2.1
  valid : validV r.1 r.2.1 r.2.2.1 = true
  low : 0 ≤ r.2.1
  high : r.2.1 < 18446744073709551616
  size : r.2.2.1.size ≤ s.size + 21
/-- A refusal. -/
structure Gone (x : Int) (r : Int × Int × ByteArray × Int) : Prop where
  zero : r.1 = 0 ∧ r.2.1 = 0 ∧ r.2.2.1 = ⟨#[]⟩
  unsure : (convD x).2.2.1 = false
  how : r.2.2.2 = 60 ∨ r.2.2.2 = 61 ∨ r.2.2.2 = 62 ∨ r.2.2.2 = 63
theorem size_nil : (⟨#[]⟩ : ByteArray).size = 0 := rfl
theorem size_mk (l : List UInt8) : (⟨l.toArray⟩ : ByteArray).size = l.length := by simp [ByteArray.size]
theorem made_num {x k n : Int} {s : ByteArray} (hk : k = (convD x).2.1) (h : k = 1 ∨ k = 2) (h0 : 0 ≤ n) (h1 : n < 18446744073709551616) : Made x s (k, n, ⟨#[]⟩, 0) :=
  ⟨rfl, hk, validV_num h, h0, h1, by rw [size_nil]; omega⟩
theorem made_bool {x n : Int} {s : ByteArray} (hk : 3 = (convD x).2.1) (h0 : 0 ≤ n) (h1 : n ≤ 1) : Made x s (3, n, ⟨#[]⟩, 0) :=
  ⟨rfl, hk, validV_bool h1, h0, Int.lt_of_le_of_lt h1 (by decide), by rw [size_nil]; omega⟩
theorem made_text {x : Int} {s t : ByteArray} (hk : 4 = (convD x).2.1) (h : utfValid t = true) (hs : t.size ≤ s.size + 21) : Made x s (4, 0, t, 0) :=
  ⟨rfl, hk, (validV_text t).trans h, Int.le_refl 0, (by decide : (0 : Int) < 18446744073709551616), hs⟩
theorem gone {x e : Int} (hu : (convD x).2.2.1 = false) (h : e = 60 ∨ e = 61 ∨ e = 62 ∨ e = 63) : Gone x (0, 0, ⟨#[]⟩, e) := ⟨⟨rfl, rfl, rfl⟩, hu, h⟩

theorem makes_do (x n : Int) (s : ByteArray) (h : 1 ≤ x ∧ x ≤ 12) (h0 : 0 ≤ n) (h1 : n < 18446744073709551616) (hv : validV (convD x).1 n s = true) :
    Made x s (convDo x n s) ∨ Gone x (convDo x n s) := by
  have hx : x = 1 ∨ x = 2 ∨ x = 3 ∨ x = 4 ∨ x = 5 ∨ x = 6 ∨ x = 7 ∨ x = 8 ∨ x = 9 ∨ x = 10 ∨ x = 11 ∨ x = 12 := by omega
  rcases hx with rfl | rfl | rfl | rfl | rfl | rfl | rfl | rfl | rfl | rfl | rfl | rfl
  · have e : convDo 1 n s = if n > 9223372036854775807 then (0, 0, ⟨#[]⟩, 60) else (2, n, ⟨#[]⟩, 0) := rfl
    rw [e]
    split
    · exact .inr (gone rfl (by decide))
    · exact .inl (made_num rfl (by decide) h0 h1)
  · have e : convDo 2 n s = if n > 9223372036854775807 then (0, 0, ⟨#[]⟩, 60) else (1, n, ⟨#[]⟩, 0) := rfl
    rw [e]
    split
    · exact .inr (gone rfl (by decide))
    · exact .inl (made_num rfl (by decide) h0 h1)
  · have e : convDo 3 n s = (4, 0, ⟨(Lib.decDigits n.toNat).toArray⟩, 0) := rfl
    rw [e]
    refine .inl (made_text rfl (ascii_list (dec_ascii _)) ?_)
    have := dec_small (n := n.toNat) (by omega)
    rw [size_mk]
    omega
  · have e : convDo 4 n s = (4, 0, ⟨(Lib.itoa (wrap64 n)).toArray⟩, 0) := rfl
    rw [e]
    refine .inl (made_text rfl (ascii_list (itoa_ascii _)) ?_)
    have b := wrap_bounds n
    have := itoa_small (wrap64 n) b.1 b.2
    rw [size_mk]
    omega
  · by_cases d : isDigits s.data.toList = true
    · rcases digits_parse d with ⟨u, hp⟩ | hp
      · have hu : u ≤ 18446744073709551615 := by
          rw [parse_digits d] at hp
          split at hp
          · cases hp; assumption
          · cases hp
        rw [conv5_ok n d hp]
        exact .inl (made_num rfl (by decide) (Int.natCast_nonneg _) (by omega))
      · rw [conv5_range n d hp]
        exact .inr (gone rfl (by decide))
    · rw [conv5_no n d]
      exact .inr (gone rfl (by decide))
  · by_cases d : isDigits (trimMinus s.data.toList) = true
    · rcases digits_parseInt d with ⟨v, hp⟩ | hp
      · rw [conv6_ok n d hp]
        exact .inl (made_num rfl (by decide) (wrapU_bounds v).1 (wrapU_bounds v).2)
      · rw [conv6_range n d hp]
        exact .inr (gone rfl (by decide))
    · rw [conv6_no n d]
      exact .inr (gone rfl (by decide))
  · have e : convDo 7 n s = (4, 0, ⟨(Lib.formatBool (n == 1)).toArray⟩, 0) := rfl
    rw [e]
    exact .inl (made_text rfl (form_valid _) (by have := form_small (n == 1); omega))
  · have e : convDo 8 n s = (if s.toList = ([102, 97, 108, 115, 101] : List UInt8) then (3, 0, ⟨#[]⟩, 0) else if s.toList = ([116, 114, 117, 101] : List UInt8) then (3, 1, ⟨#[]⟩, 0) else (0, 0, ⟨#[]⟩, 63)) := rfl
    rw [e]
    split
    · exact .inl (made_bool rfl (by decide) (by decide))
    · split
      · exact .inl (made_bool rfl (by decide) (by decide))
      · exact .inr (gone rfl (by decide))
  · exact .inl (made_num rfl (by decide) h0 h1)
  · have e : convDo 10 n s = (if n > 1 then (0, 0, ⟨#[]⟩, 60) else (3, n, ⟨#[]⟩, 0)) := rfl
    rw [e]
    split
    · exact .inr (gone rfl (by decide))
    · exact .inl (made_bool rfl h0 (by omega))
  · exact .inl ⟨rfl, rfl, validV_raw s, Int.le_refl 0, (by decide : (0 : Int) < 18446744073709551616), by show s.size ≤ s.size + 21; omega⟩
  · have e : convDo 12 n s = (if utfValid s = true then (4, 0, s, 0) else (0, 0, ⟨#[]⟩, 62)) := rfl
    rw [e]
    split
    · rename_i u
      exact .inl (made_text rfl u (by omega))
    · exact .inr (gone rfl (by decide))
end Go.Proofs.YthfhkfebkpdkcaaGreatDoor
