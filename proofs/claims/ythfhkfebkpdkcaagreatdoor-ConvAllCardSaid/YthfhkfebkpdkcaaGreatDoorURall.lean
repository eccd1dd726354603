/- The plain law of ConvAll, for every list of operations whose numbers are of 64 bits and whose texts are of at most 2^47 bytes. With the reference's conversions, and a list of operations opened. -/
import Derived.Test.YthfhkfebkpdkcaaGreatDoorUVals
import Derived.Test.YthfhkfebkpdkcaaGreatDoorUP5
import Derived.Test.YthfhkfebkpdkcaaGreatDoorUP6
import Derived.Test.YthfhkfebkpdkcaaGreatDoorUP11
import Derived.Test.YthfhkfebkpdkcaaGreatDoorUP12
import Derived.Test.YthfhkfebkpdkcaaGreatDoorUOpn
import Derived.Deep.Slices
import Derived.SizedLaws
import Derived.Carry
namespace Go.Proofs.YthfhkfebkpdkcaaGreatDoor
open Go.RowKit Go.Lib Go.Proofs.YthfhkfebkpdkcaaGreatDoorW.PrintWords
set_option linter.unusedVariables false
set_option linter.unusedSimpArgs false

/-! ### The reference's characters: a character by trying its bytes -/
/-- The bytes of a character. -/
def encN (c : Nat) : List Nat :=
  if c < 128 then [c] else if c < 2048 then [192 + c / 64, 128 + c % 64] else if c < 65536 then [224 + c / 4096, 128 + c / 64 % 64, 128 + c % 64]
  else [240 + c / 262144, 128 + c / 4096 % 64, 128 + c / 64 % 64, 128 + c % 64]
def bytesN (l : List Nat) : ByteArray := strOfNums (l.map fun (n : Nat) => (n : Int))
def putN (c : Nat) : ByteArray := if isChar c then bytesN (encN c) else ⟨#[]⟩
theorem bytesN_size (l : List Nat) : (bytesN l).size = l.length := by rw [bytesN, strOfNums_size, List.length_map]
theorem bytesN_nb (l : List Nat) (j : Nat) (h : j < l.length) : nb (bytesN l) j = l[j] % 256 := by
  unfold nb bytesN
  rw [strOfNums_data]
  simp [List.getD, h]
theorem put_none (k : Nat) : P.stratumref03_Put.f (k + 1) (-1) = some ⟨#[]⟩ := by
  unfold P.stratumref03_Put.f
  rw [if_pos (by decide), P.stratumref03_Put.j0, if_pos rfl]
theorem wrap_self (n : Int) (h0 : -9223372036854775808 ≤ n) (h1 : n < 9223372036854775808) : wrap64 n = n := by unfold wrap64; omega
theorem put_j0 (k c : Nat) (h : c ≤ 1114111) : P.stratumref03_Put.j0 (k + 1) (c : Int) false = some (bytesN (encN c)) := by
  have t1 : Int.tdiv (c : Int) 64 = ((c / 64 : Nat) : Int) := by rw [Int.tdiv_eq_ediv_of_nonneg (by omega)]; rfl
  have t2 : Int.tdiv (c : Int) 4096 = ((c / 4096 : Nat) : Int) := by rw [Int.tdiv_eq_ediv_of_nonneg (by omega)]; rfl
  have t3 : Int.tdiv (c : Int) 262144 = ((c / 262144 : Nat) : Int) := by rw [Int.tdiv_eq_ediv_of_nonneg (by omega)]; rfl
  have m : ∀ n : Nat, Int.tmod (n : Int) 64 = ((n % 64 : Nat) : Int) := fun n => by rw [Int.tmod_eq_emod_of_nonneg (by omega)]; rfl
  rw [P.stratumref03_Put.j0, if_neg (by decide)]
  unfold encN bytesN
  by_cases c1 : c < 128
  · rw [if_pos (by omega), if_pos c1]
    refine congrArg (fun l => some (strOfNums l)) ?_
    simp only [List.map_cons, List.map_nil, List.cons.injEq, and_true]
    omega
  rw [if_neg (by omega), if_neg c1]
  by_cases c2 : c < 2048
  · rw [if_pos (by omega), if_pos c2]
    refine congrArg (fun l => some (strOfNums l)) ?_
    rw [t1, m]
    simp only [List.map_cons, List.map_nil, List.cons.injEq, and_true]
    exact ⟨by rw [wrap_self ((c / 64 : Nat) : Int) (by omega) (by omega), wrap_self _ (by omega) (by omega)]; omega, by rw [wrap_self _ (by omega) (by omega)]; omega⟩
  rw [if_neg (by omega), if_neg c2]
  by_cases c3 : c < 65536
  · rw [if_pos (by omega), if_pos c3]
    refine congrArg (fun l => some (strOfNums l)) ?_
    rw [t1, t2, wrap_self ((c / 64 : Nat) : Int) (by omega) (by omega), m, m]
    simp only [List.map_cons, List.map_nil, List.cons.injEq, and_true]
    exact ⟨by rw [wrap_self ((c / 4096 : Nat) : Int) (by omega) (by omega), wrap_self _ (by omega) (by omega)]; omega, by rw [wrap_self _ (by omega) (by omega)]; omega, by rw [wrap_self _ (by omega) (by omega)]; omega⟩
  rw [if_neg (by omega), if_neg c3]
  refine congrArg (fun l => some (strOfNums l)) ?_
  rw [t1, t2, t3, wrap_self ((c / 64 : Nat) : Int) (by omega) (by omega), wrap_self ((c / 4096 : Nat) : Int) (by omega) (by omega), m, m, m]
  simp only [List.map_cons, List.map_nil, List.cons.injEq, and_true]
  exact ⟨by rw [wrap_self ((c / 262144 : Nat) : Int) (by omega) (by omega), wrap_self _ (by omega) (by omega)]; omega, by rw [wrap_self _ (by omega) (by omega)]; omega, by rw [wrap_self _ (by omega) (by omega)]; omega, by rw [wrap_self _ (by omega) (by omega)]; omega⟩
theorem put_f (k c : Nat) : P.stratumref03_Put.f (k + 1) (c : Int) = some (putN c) := by
  unfold P.stratumref03_Put.f putN
  rw [if_neg (by omega)]
  by_cases hc : isChar c
  · rw [if_pos hc]
    unfold isChar at hc
    rw [if_neg (by omega)]
    by_cases h1 : 55296 ≤ c
    · rw [if_pos (by omega), decide_eq_false (by omega), put_j0 k c hc.1]
    · rw [if_neg (by omega), put_j0 k c hc.1]
  · rw [if_neg hc]
    unfold isChar at hc
    by_cases h : c ≤ 1114111
    · rw [if_neg (by omega), if_pos (by omega), decide_eq_true (by omega), P.stratumref03_Put.j0, if_pos rfl]
    · rw [if_pos (by omega), P.stratumref03_Put.j0, if_pos rfl]

/-- The answer by the bytes p of a character c. -/
def tryN (s : ByteArray) (c : Int) (t : ByteArray) : Option (Int × Int) :=
  if t.toList = ([] : List UInt8) then (some ((-1), 1)) else (if (t.size : Int) > (s.size : Int) then (some ((-1), 1)) else (if 0 ≤ (t.size : Int) then (if (t.size : Int) ≤ (s.size : Int) then (if (s.extract 0 ((t.size : Int) : Int).toNat).toList = t.toList then (some (c, (t.size : Int))) else (some ((-1), 1))) else (none)) else (none)))
theorem try_nil (s : ByteArray) (c : Int) : tryN s c ⟨#[]⟩ = some (-1, 1) := by
  unfold tryN
  rw [if_pos (by kernel_rfl)]
theorem data_size (t : ByteArray) : t.data.toList.length = t.size := Array.length_toList
theorem list_size (t : ByteArray) : t.toList.length = t.size := by rw [Lib.toList_data, data_size]
theorem getD_at (l : List UInt8) (j : Nat) (h : j < l.length) : l.getD j 0 = l[j] := by simp [List.getD, h]
theorem head_list (s : ByteArray) (n : Nat) (_h : n ≤ s.size) : (s.extract 0 n).toList = s.data.toList.take n := by
  rw [Lib.toList_data, ByteArray.data_extract, Array.toList_extract]
  simp
theorem try_first {s t : ByteArray} (c : Int) (h0 : 0 < t.size) (h : nb s 0 ≠ nb t 0) : tryN s c t = some (-1, 1) := by
  unfold tryN
  split
  · rfl
  · by_cases c1 : (t.size : Int) > (s.size : Int)
    · rw [if_pos c1]
    · rw [if_neg c1, if_pos (by omega), if_pos (by omega), if_neg]
      rw [Int.toNat_natCast, head_list s t.size (by omega), Lib.toList_data]
      intro e
      apply h
      unfold nb
      rw [← e]
      have q : ∀ l : List UInt8, ∀ n, 0 < n → (l.take n).getD 0 0 = l.getD 0 0 := by
        intro l n hn
        cases n with
        | zero => omega
        | succ n => cases l <;> rfl
      rw [q _ _ h0]
theorem try_same {s t : ByteArray} (c : Int) (h0 : 0 < t.size) (h1 : t.size ≤ s.size) (h : ∀ j, j < t.size → nb s j = nb t j) : tryN s c t = some (c, (t.size : Int)) := by
  unfold tryN
  rw [if_neg (by intro e; have := list_size t; rw [e] at this; simp at this; omega), if_neg (by omega), if_pos (by omega), if_pos (by omega), if_pos]
  rw [Int.toNat_natCast, head_list s t.size h1, Lib.toList_data]
  have hl := data_size s
  have ht := data_size t
  refine List.ext_getElem (by rw [List.length_take, hl, ht]; omega) ?_
  intro j j1 j2
  rw [List.getElem_take]
  have := h j (by omega)
  unfold nb at this
  rw [getD_at _ _ (by omega), getD_at _ _ (by omega)] at this
  exact UInt8.toNat_inj.1 this

theorem more_f (c i : Nat) (s : ByteArray) (h : c < 1048576) : P.stratumref03_more.f (c : Int) s (i : Int) = some (if i < s.size ∧ goodB (nb s i) then ((c * 64 + nb s i % 64 : Nat) : Int) else -1) := by
  unfold P.stratumref03_more.f
  rw [if_neg (by omega)]
  by_cases c1 : i < s.size
  · have hb := nb_lt s i
    rw [if_neg (by omega), if_pos (by omega), if_pos (by omega), bt_nb s i c1]
    by_cases c2 : nb s i < 128
    · rw [if_pos (by omega), if_neg (by unfold goodB; omega)]
    · rw [if_neg (by omega)]
      by_cases c3 : nb s i > 191
      · rw [if_pos (by omega), if_neg (by unfold goodB; omega)]
      · rw [if_neg (by omega), if_pos (by unfold goodB; omega)]
        congr 1
        rw [wrap_self ((c : Int) * 64) (by omega) (by omega), wrap_self (nb s i : Int) (by omega) (by omega), wrap_self ((c : Int) * 64 + (nb s i : Int)) (by omega) (by omega), wrap_self _ (by omega) (by omega)]
        omega
  · rw [if_pos (by omega), if_neg (by omega)]
theorem more_no (i : Nat) (s : ByteArray) : P.stratumref03_more.f (-1) s (i : Int) = some (-1) := by
  unfold P.stratumref03_more.f
  rw [if_pos (by decide)]
theorem fin1 {s : ByteArray} (h0 : 0 < s.size) (h : nb s 0 < 128) : tryN s (nb s 0 : Int) (putN (nb s 0)) = some ((nb s 0 : Int), 1) := by
  have hc : isChar (nb s 0) := by unfold isChar; omega
  have he : encN (nb s 0) = [nb s 0] := by unfold encN; rw [if_pos h]
  rw [putN, if_pos hc, he]
  have hs := bytesN_size [nb s 0]
  rw [List.length_singleton] at hs
  rw [try_same _ (by omega) (by omega), hs]
  · rfl
  · intro j hj
    rw [hs] at hj
    obtain rfl : j = 0 := by omega
    rw [bytesN_nb _ _ (by simp)]
    simp
    omega
/-- A character below what the first byte could begin. -/
theorem fin_less {s : ByteArray} {c n least : Nat} (h : c < least) (hb : 192 ≤ nb s 0) (hl : (least = 128) ∨ (least = 2048 ∧ 224 ≤ nb s 0) ∨ (least = 65536 ∧ 240 ≤ nb s 0)) : tryN s (c : Int) (putN c) = some (utfFin c n least) := by
  rw [utfFin_no (by omega)]
  unfold putN
  split
  · refine try_first _ ?_ ?_
    · rw [bytesN_size]
      unfold encN
      repeat' split
      all_goals simp
    · have hx : ∀ l : List Nat, (h : 0 < l.length) → l[0] < nb s 0 → nb s 0 ≠ nb (bytesN l) 0 := by
        intro l hl0 hlt
        rw [bytesN_nb l 0 hl0]
        have := Nat.mod_le l[0] 256
        omega
      unfold encN
      by_cases c1 : c < 128
      · rw [if_pos c1]; exact hx _ (by simp) (by simp; omega)
      rw [if_neg c1]
      by_cases c2 : c < 2048
      · rw [if_pos c2]; exact hx _ (by simp) (by simp; omega)
      rw [if_neg c2]
      by_cases c3 : c < 65536
      · rw [if_pos c3]; exact hx _ (by simp) (by simp; omega)
      · omega
  · exact try_nil s _
theorem fin2 {s : ByteArray} (b0 b1 : Nat) (e0 : nb s 0 = b0) (e1 : nb s 1 = b1) (h2 : 2 ≤ s.size) (h : 192 ≤ b0 ∧ b0 < 224) (g1 : goodB b1) :
    tryN s (((b0 - 192) * 64 + b1 % 64 : Nat) : Int) (putN ((b0 - 192) * 64 + b1 % 64)) = some (utfFin (b0 % 32 * 64 + b1 % 64) 2 128) := by
  unfold goodB at g1
  have ec : (b0 - 192) * 64 + b1 % 64 = b0 % 32 * 64 + b1 % 64 := by omega
  rw [ec]
  by_cases hl : b0 % 32 * 64 + b1 % 64 < 128
  · exact fin_less hl (by omega) (.inl rfl)
  have hc : isChar (b0 % 32 * 64 + b1 % 64) := by unfold isChar; omega
  have he : encN (b0 % 32 * 64 + b1 % 64) = [b0, b1] := by
    unfold encN
    rw [if_neg (by omega), if_pos (by omega)]
    simp only [List.cons.injEq, and_true]
    omega
  rw [utfFin_yes ⟨by omega, hc⟩, putN, if_pos hc, he]
  have hs := bytesN_size [b0, b1]
  simp only [List.length_cons, List.length_nil] at hs
  have u0 := nb_lt s 0
  have u1 := nb_lt s 1
  rw [try_same _ (by omega) (by omega), hs]
  intro j hj
  rw [hs] at hj
  rw [bytesN_nb _ _ (by simpa using hj)]
  match j, hj with
  | 0, _ => simp; omega
  | 1, _ => simp; omega
theorem fin3 {s : ByteArray} (b0 b1 b2 : Nat) (e0 : nb s 0 = b0) (e1 : nb s 1 = b1) (e2 : nb s 2 = b2) (h2 : 3 ≤ s.size) (h : 224 ≤ b0 ∧ b0 < 240) (g1 : goodB b1) (g2 : goodB b2) :
    tryN s ((((b0 - 224) * 64 + b1 % 64) * 64 + b2 % 64 : Nat) : Int) (putN (((b0 - 224) * 64 + b1 % 64) * 64 + b2 % 64)) = some (utfFin ((b0 % 16 * 64 + b1 % 64) * 64 + b2 % 64) 3 2048) := by
  unfold goodB at g1 g2
  have ec : ((b0 - 224) * 64 + b1 % 64) * 64 + b2 % 64 = (b0 % 16 * 64 + b1 % 64) * 64 + b2 % 64 := by omega
  rw [ec]
  by_cases hl : (b0 % 16 * 64 + b1 % 64) * 64 + b2 % 64 < 2048
  · exact fin_less hl (by omega) (.inr (.inl ⟨rfl, by omega⟩))
  by_cases hc : isChar ((b0 % 16 * 64 + b1 % 64) * 64 + b2 % 64)
  · have he : encN ((b0 % 16 * 64 + b1 % 64) * 64 + b2 % 64) = [b0, b1, b2] := by
      unfold encN
      rw [if_neg (by omega), if_neg (by omega), if_pos (by omega)]
      simp only [List.cons.injEq, and_true]
      omega
    rw [utfFin_yes ⟨by omega, hc⟩, putN, if_pos hc, he]
    have hs := bytesN_size [b0, b1, b2]
    simp only [List.length_cons, List.length_nil] at hs
    have u0 := nb_lt s 0
    have u1 := nb_lt s 1
    have u2 := nb_lt s 2
    rw [try_same _ (by omega) (by omega), hs]
    intro j hj
    rw [hs] at hj
    rw [bytesN_nb _ _ (by simpa using hj)]
    match j, hj with
    | 0, _ => simp; omega
    | 1, _ => simp; omega
    | 2, _ => simp; omega
  · rw [utfFin_no (fun q => hc q.2), putN, if_neg hc]
    exact try_nil s _
theorem fin4 {s : ByteArray} (b0 b1 b2 b3 : Nat) (e0 : nb s 0 = b0) (e1 : nb s 1 = b1) (e2 : nb s 2 = b2) (e3 : nb s 3 = b3) (h2 : 4 ≤ s.size) (h : 240 ≤ b0 ∧ b0 < 248) (g1 : goodB b1) (g2 : goodB b2) (g3 : goodB b3) :
    tryN s (((((b0 - 240) * 64 + b1 % 64) * 64 + b2 % 64) * 64 + b3 % 64 : Nat) : Int) (putN ((((b0 - 240) * 64 + b1 % 64) * 64 + b2 % 64) * 64 + b3 % 64)) = some (utfFin (((b0 % 8 * 64 + b1 % 64) * 64 + b2 % 64) * 64 + b3 % 64) 4 65536) := by
  unfold goodB at g1 g2 g3
  have ec : (((b0 - 240) * 64 + b1 % 64) * 64 + b2 % 64) * 64 + b3 % 64 = ((b0 % 8 * 64 + b1 % 64) * 64 + b2 % 64) * 64 + b3 % 64 := by omega
  rw [ec]
  by_cases hl : ((b0 % 8 * 64 + b1 % 64) * 64 + b2 % 64) * 64 + b3 % 64 < 65536
  · exact fin_less hl (by omega) (.inr (.inr ⟨rfl, by omega⟩))
  by_cases hc : isChar (((b0 % 8 * 64 + b1 % 64) * 64 + b2 % 64) * 64 + b3 % 64)
  · have he : encN (((b0 % 8 * 64 + b1 % 64) * 64 + b2 % 64) * 64 + b3 % 64) = [b0, b1, b2, b3] := by
      unfold encN
      rw [if_neg (by omega), if_neg (by omega), if_neg (by omega)]
      simp only [List.cons.injEq, and_true]
      omega
    rw [utfFin_yes ⟨by omega, hc⟩, putN, if_pos hc, he]
    have hs := bytesN_size [b0, b1, b2, b3]
    simp only [List.length_cons, List.length_nil] at hs
    have u0 := nb_lt s 0
    have u1 := nb_lt s 1
    have u2 := nb_lt s 2
    have u3 := nb_lt s 3
    rw [try_same _ (by omega) (by omega), hs]
    intro j hj
    rw [hs] at hj
    rw [bytesN_nb _ _ (by simpa using hj)]
    match j, hj with
    | 0, _ => simp; omega
    | 1, _ => simp; omega
    | 2, _ => simp; omega
    | 3, _ => simp; omega
  · rw [utfFin_no (fun q => hc q.2), putN, if_neg hc]
    exact try_nil s _

theorem rnext_f (k : Nat) (s : ByteArray) : P.stratumref03_Next.f (k + 5) s = some (utfNext s) := by
  unfold P.stratumref03_Next.f utfNext
  by_cases z : s.size = 0
  · have e : s.toList = [] := by have := list_size s; exact List.length_eq_zero_iff.1 (by omega)
    rw [if_pos e, if_pos z]
  have e : s.toList ≠ [] := by intro q; have := list_size s; rw [q] at this; simp at this; omega
  rw [if_neg e, if_neg z, if_pos (by omega)]
  have hb := nb_lt s 0
  have ew : wrap64 (bt s 0) = (nb s 0 : Int) := by
    have := bt_nb s 0 (by omega)
    rw [show (0 : Int) = ((0 : Nat) : Int) from rfl, this, wrap_self _ (by omega) (by omega)]
  rw [ew]
  by_cases a : nb s 0 < 128
  · rw [if_pos (by omega), if_pos a, put_f, Option.bind_some]
    exact fin1 (by omega) a
  rw [if_neg (by omega), if_neg a]
  have bad : ∀ k, (P.stratumref03_Put.f (k + 1) (-1)).bind (fun t => tryN s (-1) t) = some (-1, 1) := fun k => by rw [put_none, Option.bind_some, try_nil]
  have tail : ∀ x c : Int, P.stratumref03_Next.j2 (k + 2) s x (-1) false = some (-1, 1) := by
    intro x c
    rw [P.stratumref03_Next.j2, if_neg (by decide)]
    exact bad _
  by_cases r2 : 192 ≤ nb s 0 ∧ nb s 0 < 224
  · rw [if_pos (by omega), if_pos r2, decide_eq_true (by omega), P.stratumref03_Next.j0, if_pos rfl]
    have ex : wrap64 ((nb s 0 : Int) - 192) = ((nb s 0 - 192 : Nat) : Int) := by rw [wrap_self _ (by omega) (by omega)]; omega
    rw [ex, show (1 : Int) = ((1 : Nat) : Int) from rfl, more_f _ _ _ (by omega), Option.bind_some]
    by_cases g : 2 ≤ s.size ∧ goodB (nb s 1)
    · rw [if_pos g, if_pos ⟨by omega, g.2⟩, put_f, Option.bind_some]
      exact fin2 _ _ rfl rfl g.1 r2 g.2
    · rw [if_neg g, if_neg (fun q => g ⟨by omega, q.2⟩)]
      exact bad _
  rw [if_neg r2]
  by_cases r3 : 224 ≤ nb s 0 ∧ nb s 0 < 240
  · rw [if_pos (by omega), if_pos r3, decide_eq_false (by omega), P.stratumref03_Next.j0, if_neg (by decide), if_pos (by omega), decide_eq_true (by omega), P.stratumref03_Next.j1, if_pos rfl]
    have ex : wrap64 ((nb s 0 : Int) - 224) = ((nb s 0 - 224 : Nat) : Int) := by rw [wrap_self _ (by omega) (by omega)]; omega
    rw [ex, show (1 : Int) = ((1 : Nat) : Int) from rfl, show (2 : Int) = ((2 : Nat) : Int) from rfl, more_f _ _ _ (by omega), Option.bind_some]
    by_cases g1 : 1 < s.size ∧ goodB (nb s 1)
    · rw [if_pos g1, more_f _ _ _ (by omega), Option.bind_some]
      by_cases g2 : 2 < s.size ∧ goodB (nb s 2)
      · rw [if_pos g2, if_pos ⟨by omega, g1.2, g2.2⟩, put_f, Option.bind_some]
        exact fin3 _ _ _ rfl rfl rfl (by omega) r3 g1.2 g2.2
      · rw [if_neg g2, if_neg (fun q => g2 ⟨by omega, q.2.2⟩)]
        exact bad _
    · rw [if_neg g1, more_no, Option.bind_some, if_neg (fun q => g1 ⟨by omega, q.2.1⟩)]
      exact bad _
  rw [if_neg r3]
  by_cases r4 : 240 ≤ nb s 0 ∧ nb s 0 < 248
  · rw [if_pos (by omega), if_pos r4, decide_eq_false (by omega), P.stratumref03_Next.j0, if_neg (by decide), if_pos (by omega), decide_eq_false (by omega), P.stratumref03_Next.j1, if_neg (by decide), if_pos (by omega), decide_eq_true (by omega), P.stratumref03_Next.j2, if_pos rfl]
    have ex : wrap64 ((nb s 0 : Int) - 240) = ((nb s 0 - 240 : Nat) : Int) := by rw [wrap_self _ (by omega) (by omega)]; omega
    rw [ex, show (1 : Int) = ((1 : Nat) : Int) from rfl, show (2 : Int) = ((2 : Nat) : Int) from rfl, show (3 : Int) = ((3 : Nat) : Int) from rfl, more_f _ _ _ (by omega), Option.bind_some]
    by_cases g1 : 1 < s.size ∧ goodB (nb s 1)
    · rw [if_pos g1, more_f _ _ _ (by omega), Option.bind_some]
      by_cases g2 : 2 < s.size ∧ goodB (nb s 2)
      · rw [if_pos g2, more_f _ _ _ (by omega), Option.bind_some]
        by_cases g3 : 3 < s.size ∧ goodB (nb s 3)
        · rw [if_pos g3, if_pos ⟨by omega, g1.2, g2.2, g3.2⟩, put_f, Option.bind_some]
          exact fin4 _ _ _ _ rfl rfl rfl rfl (by omega) r4 g1.2 g2.2 g3.2
        · rw [if_neg g3, if_neg (fun q => g3 ⟨by omega, q.2.2.2⟩)]
          exact bad _
      · rw [if_neg g2, more_no, Option.bind_some, if_neg (fun q => g2 ⟨by omega, q.2.2.1⟩)]
        exact bad _
    · rw [if_neg g1, more_no, Option.bind_some, more_no, Option.bind_some, if_neg (fun q => g1 ⟨by omega, q.2.1⟩)]
      exact bad _
  rw [if_neg r4]
  by_cases r1 : nb s 0 ≥ 192
  · rw [if_pos (by omega), decide_eq_false (by omega), P.stratumref03_Next.j0, if_neg (by decide), if_pos (by omega), decide_eq_false (by omega), P.stratumref03_Next.j1, if_neg (by decide), if_pos (by omega), decide_eq_false (by omega)]
    exact tail _ 0
  · rw [if_neg (by omega), P.stratumref03_Next.j0, if_neg (by decide), if_neg (by omega), P.stratumref03_Next.j1, if_neg (by decide), if_neg (by omega)]
    exact tail _ 0

theorem rfault_l0 (s : ByteArray) (hs : s.size ≤ 9223372036854775807) : ∀ (k i : Nat), i ≤ s.size → s.size - i < k → P.stratumref03_Fault.l0 (k + 5) s (i : Int) = some (faultN s k i : Int)
  | 0, i, _, h => absurd h (by omega)
  | k + 1, i, hi, hk => by
    rw [show k + 1 + 5 = (k + 5) + 1 by omega, P.stratumref03_Fault.l0, faultN]
    by_cases h : i < s.size
    · rw [if_pos (by omega), if_pos (by omega), if_pos (by omega), if_pos h, rnext_f, Option.bind_some, Int.toNat_natCast]
      by_cases c : (utfNext (s.extract i s.size)).1 < 0
      · rw [if_pos c, if_pos c]
      · rw [if_neg c, if_neg c]
        obtain ⟨h1, h2⟩ := utfNext_small _ c
        have hx : (s.extract i s.size).size = s.size - i := by simp
        rw [hx] at h2
        have e : wrap64 ((i : Int) + (utfNext (s.extract i s.size)).2) = ((i + (utfNext (s.extract i s.size)).2.toNat : Nat) : Int) := by unfold wrap64; omega
        rw [e]
        exact rfault_l0 s hs k _ (by omega) (by omega)
    · rw [if_neg (by omega), if_neg h]
theorem rvalid_f (s : ByteArray) (hs : s.size ≤ 9223372036854775807) : P.stratumref03_Valid.f (s.size + 6) s = some (utfValid s) := by
  unfold P.stratumref03_Valid.f P.stratumref03_Fault.f
  have := rfault_l0 s hs (s.size + 1) 0 (by omega) (by omega)
  rw [show (0 : Int) = ((0 : Nat) : Int) from rfl, show s.size + 6 = s.size + 1 + 5 by omega, this, Option.bind_some]
  unfold utfValid utfFault
  congr 1
  rw [Bool.eq_iff_iff, beq_iff_eq, decide_eq_true_iff]
  omega
theorem rkvalid_f (k n : Int) (s : ByteArray) (hs : s.size ≤ 9223372036854775807) : P.stratumref04_Valid.f (s.size + 7) k n s = some (validV k n s) := by
  unfold P.stratumref04_Valid.f validV
  by_cases h1 : k = 1
  · rw [if_pos h1, if_pos (.inl h1), h1]
    simp [P.stratumref04_Valid.j0]
  rw [if_neg h1]
  by_cases h2 : k = 2
  · rw [if_pos (.inr h2), h2]
    simp [P.stratumref04_Valid.j0]
  have e : (k == 2) = false := beq_eq_false_iff_ne.2 h2
  rw [if_neg (by rintro (h | h); exact h1 h; exact h2 h), e, P.stratumref04_Valid.j0]
  rw [if_neg (by decide)]
  by_cases h3 : k = 3
  · rw [if_pos h3, if_pos h3]
    by_cases c : s.toList = ([] : List UInt8)
    · rw [if_pos c, c]
      simp
    · rw [if_neg c, show (s.toList == ([] : List UInt8)) = false from by simpa using c, Bool.and_false]
  rw [if_neg h3, if_neg h3]
  by_cases h4 : k = 4
  · rw [if_pos h4, if_pos h4]
    by_cases c : n = 0
    · rw [if_pos c, rvalid_f s hs, Option.bind_some, decide_eq_true c, Bool.true_and]
    · rw [if_neg c, decide_eq_false c, Bool.false_and]
  rw [if_neg h4, if_neg h4]
  by_cases h5 : k = 5
  · rw [if_pos h5, if_pos h5]
  · rw [if_neg h5, if_neg h5]
end Go.Proofs.YthfhkfebkpdkcaaGreatDoor
namespace Go.Proofs.YthfhkfebkpdkcaaGreatDoor
open Go.RowKit Go.Lib Go.Proofs.YthfhkfebkpdkcaaGreatDoorW.PrintWords
set_option linter.unusedVariables false
set_option linter.unusedSimpArgs false

/-! ### The reference's digits -/
theorem mk_append (a b : List UInt8) : (⟨a.toArray⟩ ++ ⟨b.toArray⟩ : ByteArray) = ⟨(a ++ b).toArray⟩ := by
  ext1
  simp
theorem dig_nums (n : Nat) (h : n < 10) (a : Int) (e : a = (48 + n : Int)) : strOfNums [a] = ⟨[UInt8.ofNat (48 + n)].toArray⟩ := by
  unfold strOfNums
  rw [e]
  congr 2
theorem wrapU_self (n : Int) (h0 : 0 ≤ n) (h1 : n < 18446744073709551616) : IntKind.u64.wrap n = n := by
  simp only [IntKind.wrap, IntKind.bits, IntKind.signed, Bool.false_and, Bool.false_eq_true, if_false]
  omega
theorem wrapU_neg (n : Int) (h0 : 0 < n) (h1 : n < 18446744073709551616) : IntKind.u64.wrap (-n) = 18446744073709551616 - n := by
  simp only [IntKind.wrap, IntKind.bits, IntKind.signed, Bool.false_and, Bool.false_eq_true, if_false]
  omega
theorem dig_at (n : Nat) (h : n < 18446744073709551616) : (IntKind.u64.wrap (48 + (Int.tmod (n : Int) 10))) % 256 = (48 + (n % 10 : Nat) : Int) := by
  rw [Int.tmod_eq_emod_of_nonneg (by omega), wrapU_self _ (by omega) (by omega)]
  omega
theorem div_at (n : Nat) (h : n < 18446744073709551616) : IntKind.u64.wrap (Int.tdiv (n : Int) 10) = ((n / 10 : Nat) : Int) := by
  rw [Int.tdiv_eq_ediv_of_nonneg (by omega), wrapU_self _ (by omega) (by omega)]
  rfl
theorem rdig_l0 : ∀ (k n : Nat) (rest : List UInt8), n < 10 ^ (k + 1) → n < 18446744073709551616 → rest.length + k ≤ 1000 →
    P.stratumref06_digits.l0 (k + 1) (n : Int) ⟨(UInt8.ofNat (48 + n % 10) :: rest).toArray⟩ = some ⟨(Lib.decDigits n ++ rest).toArray⟩ := by
  intro k
  induction k with
  | zero =>
    intro n rest h hn hr
    rw [P.stratumref06_digits.l0, if_neg (by omega), Lib.decDigits, dif_pos (by omega), show n % 10 = n by omega]
    rfl
  | succ k ih =>
    intro n rest h hn hr
    rw [P.stratumref06_digits.l0]
    by_cases c : n < 10
    · rw [if_neg (by omega), Lib.decDigits, dif_pos c, show n % 10 = n by omega]
      rfl
    · rw [if_pos (by omega), div_at n hn, dig_at _ (by omega), Option.bind_some, dig_nums (n / 10 % 10) (by omega) _ rfl, if_pos (by rw [size_mk, size_mk]; simp; omega), mk_append]
      have := ih (n / 10) (UInt8.ofNat (48 + n % 10) :: rest) (by rw [Nat.pow_succ] at h; omega) (by omega) (by simp; omega)
      rw [List.singleton_append, this]
      congr 3
      conv => rhs; rw [Lib.decDigits, dif_neg c]
      simp
theorem rdigits_f (n : Nat) (hn : n < 18446744073709551616) : P.stratumref06_digits.f 21 (n : Int) = some ⟨(Lib.decDigits n).toArray⟩ := by
  unfold P.stratumref06_digits.f
  rw [dig_at n hn, dig_nums (n % 10) (by omega) _ rfl]
  have := rdig_l0 20 n [] (Nat.lt_trans hn (by decide)) hn (by simp)
  rw [this, List.append_nil]

/-! ### The reference's reading of digits -/
theorem drop_cons (l : List UInt8) (i : Nat) (h : i < l.length) : l.drop i = l[i] :: l.drop (i + 1) := List.drop_eq_getElem_cons h
theorem bt_list (s : ByteArray) (i : Nat) (h : i < s.data.toList.length) : bt s (i : Int) = ((s.data.toList[i]).toNat : Int) := by
  rw [bt_nb s i (by rw [← data_size]; exact h), nb, getD_at _ _ h]
theorem isDig_iff (c : UInt8) : isDig c = true ↔ 48 ≤ c.toNat ∧ c.toNat ≤ 57 := by unfold isDig; simp
theorem read_l1 (s : ByteArray) (most : Nat) (h9 : 9 ≤ most) (hm : most < 18446744073709551616) (hs : s.size ≤ 9223372036854775807) : ∀ (k i acc : Nat), i ≤ s.size → s.size - i < k → acc ≤ most → (∀ c ∈ s.data.toList.drop i, isDig c = true) →
    P.stratumref06_read.l1 k s (most : Int) (acc : Int) (i : Int) = some (if dval acc (s.data.toList.drop i) ≤ most then (((dval acc (s.data.toList.drop i) : Nat) : Int), 0) else (0, 60)) := by
  intro k
  induction k with
  | zero => intro i acc hi h; omega
  | succ k ih =>
    intro i acc hi hk ha hd
    have hl := data_size s
    rw [P.stratumref06_read.l1]
    by_cases h : i < s.size
    · have hi' : i < s.data.toList.length := by omega
      rw [drop_cons _ _ hi'] at hd ⊢
      have d0 := (isDig_iff _).1 (hd _ List.mem_cons_self)
      have g := dval_ge (s.data.toList.drop (i + 1)) (acc * 10 + (s.data.toList[i].toNat - 48))
      rw [if_pos (by omega), if_pos (by omega), bt_list s i hi', dval_cons]
      have em : IntKind.u64.wrap (Int.tdiv (most : Int) 10) = ((most / 10 : Nat) : Int) := div_at most hm
      have ed : (((s.data.toList[i]).toNat : Int) - 48) % 256 = ((s.data.toList[i].toNat - 48 : Nat) : Int) := by omega
      rw [em, ed]
      by_cases c1 : acc > most / 10
      · rw [if_pos (by omega), if_neg (by omega)]
      · rw [if_neg (by omega), wrapU_self ((acc : Int) * 10) (by omega) (by omega), wrapU_self ((most : Int) - _) (by omega) (by omega)]
        by_cases c2 : acc * 10 + (s.data.toList[i].toNat - 48) > most
        · rw [if_pos (by omega), if_neg (by omega)]
        · rw [if_neg (by omega), wrapU_self _ (by omega) (by omega)]
          have e : wrap64 ((i : Int) + 1) = ((i + 1 : Nat) : Int) := by unfold wrap64; omega
          have e2 : (acc : Int) * 10 + ((s.data.toList[i].toNat - 48 : Nat) : Int) = ((acc * 10 + (s.data.toList[i].toNat - 48) : Nat) : Int) := by omega
          rw [e, e2]
          have q := ih (i + 1) (acc * 10 + (s.data.toList[i].toNat - 48)) h (by clear em ed e e2 g d0 c1 c2 ha hm hs h9; omega) (Nat.le_of_not_gt c2) (fun c hc => hd c (List.mem_cons_of_mem _ hc))
          exact q
    · rw [if_neg (by omega), List.drop_eq_nil_of_le (by omega), dval_nil, if_pos ha]
theorem read_l0 (s : ByteArray) (most : Nat) (h9 : 9 ≤ most) (hm : most < 18446744073709551616) (hs : s.size ≤ 9223372036854775807) : ∀ (k i : Nat), i ≤ s.size → s.size - i < k → (∀ j, j < i → ∀ h : j < s.data.toList.length, isDig (s.data.toList[j]) = true) →
    P.stratumref06_read.l0 (k + s.size + 1) s (most : Int) (i : Int) = some (if s.data.toList.all isDig = true then (if dval 0 s.data.toList ≤ most then (((dval 0 s.data.toList : Nat) : Int), 0) else (0, 60)) else (0, 61)) := by
  intro k
  induction k with
  | zero => intro i hi h; omega
  | succ k ih =>
    intro i hi hk hp
    have hl := data_size s
    rw [show k + 1 + s.size + 1 = (k + s.size + 1) + 1 by omega, P.stratumref06_read.l0]
    by_cases h : i < s.size
    · have hi' : i < s.data.toList.length := by omega
      rw [if_pos (by omega), if_pos (by omega), bt_list s i hi']
      by_cases d : isDig (s.data.toList[i]) = true
      · have d0 := (isDig_iff _).1 d
        have e : wrap64 ((i : Int) + 1) = ((i + 1 : Nat) : Int) := by unfold wrap64; omega
        rw [if_neg (by omega), if_neg (by omega), e]
        refine ih (i + 1) (by omega) (by omega) fun j hj hjl => ?_
        by_cases q : j = i
        · subst q; exact d
        · exact hp j (by omega) hjl
      · have n : s.data.toList.all isDig = false := by
          rw [List.all_eq_false]
          exact ⟨_, List.getElem_mem hi', by simpa using d⟩
        rw [isDig_iff] at d
        have R : (if s.data.toList.all isDig = true then (if dval 0 s.data.toList ≤ most then (((dval 0 s.data.toList : Nat) : Int), (0 : Int)) else (0, 60)) else (0, 61)) = (0, 61) := by rw [n, if_neg (by decide)]
        rw [R]
        by_cases c : s.data.toList[i].toNat < 48
        · rw [if_pos (by omega)]
        · rw [if_neg (by omega), if_pos (by omega)]
    · have a : s.data.toList.all isDig = true := by
        rw [List.all_eq_true]
        intro c hc
        obtain ⟨j, hj, rfl⟩ := List.getElem_of_mem hc
        exact hp j (by omega) hj
      rw [if_neg (by omega), a, if_pos rfl]
      have := read_l1 s most h9 hm hs (k + s.size + 1) 0 0 (by omega) (by omega) (by omega) (by rw [List.drop_zero]; exact List.all_eq_true.1 a)
      rw [List.drop_zero] at this
      exact this
theorem read_f (s : ByteArray) (most : Nat) (h9 : 9 ≤ most) (hm : most < 18446744073709551616) (hs : s.size ≤ 9223372036854775807) :
    P.stratumref06_read.f (2 * s.size + 2) s (most : Int) = some (if isDigits s.data.toList = true then (if dval 0 s.data.toList ≤ most then (((dval 0 s.data.toList : Nat) : Int), 0) else (0, 60)) else (0, 61)) := by
  unfold P.stratumref06_read.f
  rw [Lib.toList_data]
  by_cases z : s.data.toList = []
  · rw [if_pos z, z, if_neg (by decide)]
  · rw [if_neg z]
    have e : isDigits s.data.toList = s.data.toList.all isDig := by
      unfold isDigits
      rw [show s.data.toList.isEmpty = false from by simpa using z]
      rfl
    have := read_l0 s most h9 hm hs (s.size + 1) 0 (by omega) (by omega) (fun j h => by omega)
    rw [show 2 * s.size + 2 = s.size + 1 + s.size + 1 by omega, e]
    exact this

/-! ### The reference's conversions -/
theorem rkinds_f (x : Int) : P.stratumref06_kinds.f x = some ((convD x).1, (convD x).2.1) := by
  unfold P.stratumref06_kinds.f
  rw [Option.bind_some, Option.bind_some]
  by_cases c1 : x < 1
  · rw [if_pos c1, convD_no x (.inl c1)]
  rw [if_neg c1]
  by_cases c2 : x > 12
  · rw [if_pos c2, convD_no x (.inr c2)]
  have hx : x = 1 ∨ x = 2 ∨ x = 3 ∨ x = 4 ∨ x = 5 ∨ x = 6 ∨ x = 7 ∨ x = 8 ∨ x = 9 ∨ x = 10 ∨ x = 11 ∨ x = 12 := by omega
  rcases hx with rfl | rfl | rfl | rfl | rfl | rfl | rfl | rfl | rfl | rfl | rfl | rfl <;> rfl
theorem rfrom_f (x : Int) : P.stratumref06_From.f x = some (convD x).1 := by unfold P.stratumref06_From.f; rw [rkinds_f, Option.bind_some]
theorem rto_f (x : Int) : P.stratumref06_To.f x = some (convD x).2.1 := by unfold P.stratumref06_To.f; rw [rkinds_f, Option.bind_some]
end Go.Proofs.YthfhkfebkpdkcaaGreatDoor
namespace Go.Proofs.YthfhkfebkpdkcaaGreatDoor
open Go.RowKit Go.Lib Go.Proofs.YthfhkfebkpdkcaaGreatDoorW.PrintWords
set_option linter.unusedVariables false
set_option linter.unusedSimpArgs false

/-! ### The reference answers as the program does -/
theorem trim_other {l : List UInt8} (h : ∀ r, l ≠ 45 :: r) : trimMinus l = l := by
  match l with
  | [] => rfl
  | c :: r => exact trimMinus_plain c r (fun e => h r (by rw [e]))
theorem read5 (n : Int) (s : ByteArray) (k : Nat) (hs : s.size ≤ 9223372036854775807) (hk : 2 * s.size + 2 ≤ k) (mono : ∀ a m, LeO (P.stratumref06_read.f (2 * s.size + 2) a m) (P.stratumref06_read.f k a m)) :
    ((P.stratumref06_read.f k s 18446744073709551615).bind fun bt145 => (if bt145.2 = 0 then (some ((1 : Int), bt145.1, (⟨#[]⟩ : ByteArray), bt145.2)) else (some (0, 0, (⟨#[]⟩ : ByteArray), bt145.2)))) = some (convDo 5 n s) := by
  have e := mono s 18446744073709551615 _ (read_f s 18446744073709551615 (by decide) (by decide) hs)
  rw [e, Option.bind_some]
  by_cases d : isDigits s.data.toList = true
  · rw [if_pos d]
    have p := parse_digits d
    by_cases c : dval 0 s.data.toList ≤ 18446744073709551615
    · rw [if_pos c] at p ⊢
      rw [conv5_ok n d p]
      rfl
    · rw [if_neg c] at p ⊢
      rw [conv5_range n d p]
      rfl
  · rw [if_neg d, conv5_no n d]
    rfl
theorem read6_plain (n : Int) (s : ByteArray) (k : Nat) (hs : s.size ≤ 9223372036854775807) (hm : ∀ r, s.data.toList ≠ 45 :: r) (mono : ∀ a m, LeO (P.stratumref06_read.f (2 * s.size + 2) a m) (P.stratumref06_read.f k a m)) :
    ((P.stratumref06_read.f k s 9223372036854775807).bind fun bt149 => (if bt149.2 = 0 then (some ((2 : Int), bt149.1, (⟨#[]⟩ : ByteArray), bt149.2)) else (some (0, 0, (⟨#[]⟩ : ByteArray), bt149.2)))) = some (convDo 6 n s) := by
  have e := mono s 9223372036854775807 _ (read_f s 9223372036854775807 (by decide) (by decide) hs)
  rw [e, Option.bind_some]
  have t := trim_other hm
  by_cases d : isDigits s.data.toList = true
  · rw [if_pos d]
    have p := parseInt_plain d
    rw [parse_digits d] at p
    by_cases c : dval 0 s.data.toList ≤ 9223372036854775807
    · rw [if_pos (by omega)] at p
      unfold Lib.signlessC at p
      simp only at p
      rw [if_neg (by omega)] at p
      rw [if_pos c, conv6_ok n (by rw [t]; exact d) p, wrapU_self _ (by omega) (by omega)]
      rfl
    · have p' : Lib.parseIntB 64 s.data.toList = .range := by
        rw [p]
        split
        · unfold Lib.signlessC
          simp only
          rw [if_pos (by omega)]
        · rfl
      rw [if_neg c, conv6_range n (by rw [t]; exact d) p']
      rfl
  · rw [if_neg d, conv6_no n (by rw [t]; exact d)]
    rfl
theorem read6_minus (n : Int) (s : ByteArray) (r : List UInt8) (k : Nat) (hs : s.size ≤ 9223372036854775807) (hm : s.data.toList = 45 :: r) (hk : 2 * s.size + 2 ≤ k) (mono : ∀ a m j, j ≤ k → LeO (P.stratumref06_read.f j a m) (P.stratumref06_read.f k a m)) :
    ((P.stratumref06_read.f k (s.extract 1 s.size) 9223372036854775808).bind fun bt147 => (if bt147.2 = 0 then (some ((2 : Int), IntKind.u64.wrap (-bt147.1), (⟨#[]⟩ : ByteArray), bt147.2)) else (some (0, 0, (⟨#[]⟩ : ByteArray), bt147.2)))) = some (convDo 6 n s) := by
  have hz : (s.extract 1 s.size).size ≤ s.size := by simp
  have hr : (s.extract 1 s.size).data.toList = r := by
    rw [ByteArray.data_extract, Array.toList_extract]
    have hl := data_size s
    rw [hm] at hl ⊢
    simp only [List.length_cons] at hl
    show ((45 :: r).drop 1).take (s.size - 1) = r
    rw [show s.size - 1 = r.length by omega]
    simp
  have e := mono (s.extract 1 s.size) 9223372036854775808 _ (by omega) _ (read_f (s.extract 1 s.size) 9223372036854775808 (by decide) (by decide) (by omega))
  rw [hr] at e
  rw [e, Option.bind_some]
  have t : trimMinus s.data.toList = r := by rw [hm, trimMinus_neg]
  by_cases d : isDigits r = true
  · rw [if_pos d]
    have p : Lib.parseIntB 64 s.data.toList = Lib.signedC 9223372036854775808 (Lib.parseUintB 64 r) := by rw [hm, Lib.parseIntB_minus]
    rw [parse_digits d] at p
    by_cases c : dval 0 r ≤ 9223372036854775808
    · rw [if_pos (by omega)] at p
      unfold Lib.signedC at p
      simp only at p
      rw [if_neg (by omega)] at p
      rw [if_pos c, conv6_ok n (by rw [t]; exact d) p]
      rfl
    · have p' : Lib.parseIntB 64 s.data.toList = .range := by
        rw [p]
        split
        · unfold Lib.signedC
          simp only
          rw [if_pos (by omega)]
        · rfl
      rw [if_neg c, conv6_range n (by rw [t]; exact d) p']
      rfl
  · rw [if_neg d, conv6_no n (by rw [t]; exact d)]
    rfl
theorem read_le {j k : Nat} (h : j ≤ k) (a : ByteArray) (m : Int) : LeO (P.stratumref06_read.f j a m) (P.stratumref06_read.f k a m) := by
  obtain ⟨d, rfl⟩ := Nat.exists_eq_add_of_le h
  induction d with
  | zero => exact LeO.refl _
  | succ d ih => exact fun r hr => P.stratumref06_read.mono a m (j + d) r (ih (by omega) r hr)
theorem text_f (x n : Int) (s : ByteArray) (k : Nat) (hs : s.size ≤ 9223372036854775807) (hk : 2 * s.size + 3 ≤ k) (hx : x = 5 ∨ x = 6 ∨ x = 8 ∨ x = 11) : P.stratumref06_text.f k x s = some (convDo x n s) := by
  unfold P.stratumref06_text.f
  rw [rto_f, Option.bind_some]
  rcases hx with rfl | rfl | rfl | rfl
  · rw [if_pos rfl]
    exact read5 n s k hs (by omega) (fun a m => read_le (by omega) a m)
  · rw [if_neg (by decide), if_pos rfl]
    obtain ⟨k, rfl⟩ : ∃ q, k = q + 1 := ⟨k - 1, by omega⟩
    have plain : (∀ r, s.data.toList ≠ 45 :: r) → P.stratumref06_text.j0 (k + 1) s false (convD 6).2.1 0 ⟨#[]⟩ = some (convDo 6 n s) := by
      intro hm
      rw [P.stratumref06_text.j0, if_neg (by decide)]
      exact read6_plain n s k hs hm (fun a m => read_le (by omega) a m)
    rw [Lib.toList_data]
    by_cases z : s.data.toList = []
    · rw [if_pos z]
      exact plain (fun r => by rw [z]; simp)
    · rw [if_neg z]
      have hl := data_size s
      have hp : 0 < s.data.toList.length := List.length_pos_iff.2 z
      rw [if_pos (by omega), show (0 : Int) = ((0 : Nat) : Int) from rfl, bt_list s 0 hp]
      by_cases c : s.data.toList[0] = 45
      · rw [c]
        have hm : s.data.toList = 45 :: s.data.toList.drop 1 := by
          conv => lhs; rw [← List.drop_zero (l := s.data.toList), drop_cons _ _ hp, c]
        rw [show (((45 : UInt8).toNat : Int) == 45) = true from rfl, P.stratumref06_text.j0, if_pos rfl, if_pos (by omega)]
        exact read6_minus n s _ k hs hm (by omega) (fun a m j hj => read_le hj a m)
      · have hne : (((s.data.toList[0]).toNat : Int) == 45) = false := by
          rw [beq_eq_false_iff_ne]
          intro q
          exact c (UInt8.toNat_inj.1 (by show _ = 45; omega))
        rw [hne]
        exact plain (fun r e => c (by simp [e]))
  · rw [if_neg (by decide), if_neg (by decide), if_pos rfl]
    have e : convDo 8 n s = (if s.toList = ([102, 97, 108, 115, 101] : List UInt8) then (3, 0, ⟨#[]⟩, 0) else if s.toList = ([116, 114, 117, 101] : List UInt8) then (3, 1, ⟨#[]⟩, 0) else (0, 0, ⟨#[]⟩, 63)) := rfl
    rw [e]
    by_cases c : s.toList = ([116, 114, 117, 101] : List UInt8)
    · rw [if_pos c, c, if_pos rfl, if_neg (by decide), if_pos rfl]
      rfl
    · rw [if_neg c]
      by_cases d : s.toList = ([102, 97, 108, 115, 101] : List UInt8)
      · rw [if_pos d, if_pos d, if_pos rfl]
        rfl
      · rw [if_neg d, if_neg d, if_neg c, if_neg (by decide)]
  · rw [if_neg (by decide), if_neg (by decide), if_neg (by decide), if_pos rfl]
    rfl
theorem digits_le (n : Nat) (hn : n < 18446744073709551616) (k : Nat) (h : 21 ≤ k) : P.stratumref06_digits.f k (n : Int) = some ⟨(Lib.decDigits n).toArray⟩ := by
  obtain ⟨d, rfl⟩ := Nat.exists_eq_add_of_le h
  induction d with
  | zero => exact rdigits_f n hn
  | succ d ih => exact P.stratumref06_digits.mono (n : Int) (21 + d) _ (ih (by omega))
theorem number_f (x n : Int) (s : ByteArray) (k : Nat) (hk : 22 ≤ k) (h0 : 0 ≤ n) (h1 : n < 18446744073709551616) (hx : x = 1 ∨ x = 2 ∨ x = 3 ∨ x = 4 ∨ x = 7 ∨ x = 9 ∨ x = 10) (h7 : x = 7 → n ≤ 1) :
    P.stratumref06_number.f k x n = some (convDo x n s) := by
  obtain ⟨k, rfl⟩ : ∃ q, k = q + 1 := ⟨k - 1, by omega⟩
  unfold P.stratumref06_number.f
  rw [rto_f, Option.bind_some]
  obtain ⟨m, rfl⟩ : ∃ m : Nat, n = (m : Int) := ⟨n.toNat, by omega⟩
  rcases hx with rfl | rfl | rfl | rfl | rfl | rfl | rfl
  · rw [if_pos rfl, show ((1 : Int) == 1) = true from rfl, P.stratumref06_number.j0, if_pos rfl]
    have e : convDo 1 (m : Int) s = if (m : Int) > 9223372036854775807 then (0, 0, ⟨#[]⟩, 60) else (2, (m : Int), ⟨#[]⟩, 0) := rfl
    rw [e]
    by_cases c : (m : Int) > 9223372036854775807
    · rw [if_pos (by omega), if_pos c]
    · rw [if_neg (by omega), if_neg c]
      rfl
  · rw [if_neg (by decide), show ((2 : Int) == 2) = true from rfl, P.stratumref06_number.j0, if_pos rfl]
    have e : convDo 2 (m : Int) s = if (m : Int) > 9223372036854775807 then (0, 0, ⟨#[]⟩, 60) else (1, (m : Int), ⟨#[]⟩, 0) := rfl
    rw [e]
    by_cases c : (m : Int) > 9223372036854775807
    · rw [if_pos (by omega), if_pos c]
    · rw [if_neg (by omega), if_neg c]
      rfl
  · rw [if_neg (by decide), show ((3 : Int) == 2) = false from rfl, P.stratumref06_number.j0, if_neg (by decide), if_neg (by decide), if_pos rfl, digits_le m (by omega) k (by omega), Option.bind_some]
    rfl
  · rw [if_neg (by decide), show ((4 : Int) == 2) = false from rfl, P.stratumref06_number.j0, if_neg (by decide), if_neg (by decide), if_neg (by decide), if_pos rfl]
    have e : convDo 4 (m : Int) s = (4, 0, ⟨(Lib.itoa (wrap64 (m : Int))).toArray⟩, 0) := rfl
    rw [e]
    by_cases c : (m : Int) ≥ 9223372036854775808
    · have w1 : IntKind.u64.wrap (-(m : Int)) = ((18446744073709551616 - m : Nat) : Int) := by rw [wrapU_neg _ (by omega) (by omega)]; omega
      have w2 : wrap64 (m : Int) = -((18446744073709551616 - m : Nat) : Int) := by unfold wrap64; omega
      rw [if_pos c, w1, digits_le _ (by omega) k (by omega), Option.bind_some, w2, Lib.itoa_neg _ (by omega), if_pos]
      · exact congrArg (fun l => some ((4 : Int), (0 : Int), l, (0 : Int))) (mk_append [45] _)
      · rw [size_mk]
        have := dec_small (n := 18446744073709551616 - m) (by omega)
        omega
    · have w2 : wrap64 (m : Int) = (m : Int) := by unfold wrap64; omega
      rw [if_neg c, digits_le m (by omega) k (by omega), Option.bind_some, w2, Lib.itoa_nonneg]
  · rw [if_neg (by decide), show ((7 : Int) == 2) = false from rfl, P.stratumref06_number.j0, if_neg (by decide), if_neg (by decide), if_neg (by decide), if_neg (by decide), if_pos rfl]
    have hm : m = 0 ∨ m = 1 := by have := h7 rfl; omega
    rcases hm with rfl | rfl
    · rw [if_pos (by decide)]
      exact congrArg (fun l => some ((4 : Int), (0 : Int), l, (0 : Int))) (by kernel_rfl : (⟨#[102, 97, 108, 115, 101]⟩ : ByteArray) = ⟨(Lib.formatBool false).toArray⟩)
    · rw [if_neg (by decide)]
      exact congrArg (fun l => some ((4 : Int), (0 : Int), l, (0 : Int))) (by kernel_rfl : (⟨#[116, 114, 117, 101]⟩ : ByteArray) = ⟨(Lib.formatBool true).toArray⟩)
  · rw [if_neg (by decide), show ((9 : Int) == 2) = false from rfl, P.stratumref06_number.j0, if_neg (by decide), if_neg (by decide), if_neg (by decide), if_neg (by decide), if_neg (by decide)]
    rfl
  · rw [if_neg (by decide), show ((10 : Int) == 2) = false from rfl, P.stratumref06_number.j0, if_neg (by decide), if_pos rfl]
    have e : convDo 10 (m : Int) s = (if (m : Int) > 1 then (0, 0, ⟨#[]⟩, 60) else (3, (m : Int), ⟨#[]⟩, 0)) := rfl
    rw [e]
    by_cases c : (m : Int) > 1
    · rw [if_pos c, if_pos c]
    · rw [if_neg c, if_neg c]
      rfl
theorem valid_le (s : ByteArray) (hs : s.size ≤ 9223372036854775807) (k : Nat) (h : s.size + 6 ≤ k) : P.stratumref03_Valid.f k s = some (utfValid s) := by
  obtain ⟨d, rfl⟩ := Nat.exists_eq_add_of_le h
  induction d with
  | zero => exact rvalid_f s hs
  | succ d ih => exact P.stratumref03_Valid.mono s (s.size + 6 + d) _ (ih (by omega))
theorem kvalid_le (kd n : Int) (s : ByteArray) (hs : s.size ≤ 9223372036854775807) (k : Nat) (h : s.size + 7 ≤ k) : P.stratumref04_Valid.f k kd n s = some (validV kd n s) := by
  obtain ⟨d, rfl⟩ := Nat.exists_eq_add_of_le h
  induction d with
  | zero => exact rkvalid_f kd n s hs
  | succ d ih => exact P.stratumref04_Valid.mono kd n s (s.size + 7 + d) _ (ih (by omega))
theorem rapply_f (x kd n : Int) (s : ByteArray) (k : Nat) (hs : s.size ≤ 9223372036854775807) (hk : 2 * s.size + 30 ≤ k) (h0 : 0 ≤ n) (h1 : n < 18446744073709551616) :
    P.stratumref06_Apply.f k x kd n s = some (convApply x kd n s) := by
  obtain ⟨k, rfl⟩ : ∃ q, k = q + 1 := ⟨k - 1, by omega⟩
  unfold P.stratumref06_Apply.f
  rw [kvalid_le kd n s hs _ (by omega), Option.bind_some]
  have bad : ∀ c : (x < 1 ∨ 12 < x) ∨ validV kd n s = false ∨ kd ≠ (convD x).1, P.stratumref06_Apply.j0 (k + 1) x true kd n s = some (convApply x kd n s) := by
    intro c
    rw [show convApply x kd n s = (0, 0, ⟨#[]⟩, 1) from if_pos c, P.stratumref06_Apply.j0, if_pos rfl]
  by_cases c1 : x < 1
  · rw [if_pos c1]; exact bad (.inl (.inl c1))
  rw [if_neg c1]
  by_cases c2 : x > 12
  · rw [if_pos c2]; exact bad (.inl (.inr c2))
  rw [if_neg c2]
  by_cases c3 : validV kd n s = true
  · rw [if_pos c3, rfrom_f, Option.bind_some]
    by_cases c4 : kd = (convD x).1
    · have e4 : (kd != (convD x).1) = false := by rw [c4]; simp
      have ed : convApply x kd n s = convDo x n s := if_neg (by rintro (h | h | h); omega; rw [c3] at h; cases h; exact h c4)
      rw [e4, ed, P.stratumref06_Apply.j0, if_neg (by decide), c4]
      have eta : ∀ o : Option (Int × Int × ByteArray × Int), (o.bind fun b => some (b.1, b.2.1, b.2.2.1, b.2.2.2)) = o := fun o => by cases o <;> rfl
      have hx : x = 1 ∨ x = 2 ∨ x = 3 ∨ x = 4 ∨ x = 5 ∨ x = 6 ∨ x = 7 ∨ x = 8 ∨ x = 9 ∨ x = 10 ∨ x = 11 ∨ x = 12 := by omega
      rw [c4] at c3
      rcases hx with rfl | rfl | rfl | rfl | rfl | rfl | rfl | rfl | rfl | rfl | rfl | rfl
      · rw [if_neg (by decide), if_neg (by decide), eta]; exact number_f 1 n s k (by omega) h0 h1 (by decide) (fun e => absurd e (by decide))
      · rw [if_neg (by decide), if_neg (by decide), eta]; exact number_f 2 n s k (by omega) h0 h1 (by decide) (fun e => absurd e (by decide))
      · rw [if_neg (by decide), if_neg (by decide), eta]; exact number_f 3 n s k (by omega) h0 h1 (by decide) (fun e => absurd e (by decide))
      · rw [if_neg (by decide), if_neg (by decide), eta]; exact number_f 4 n s k (by omega) h0 h1 (by decide) (fun e => absurd e (by decide))
      · rw [if_pos (show (convD 5).1 = 4 from rfl), eta]; exact text_f 5 n s k hs (by omega) (by decide)
      · rw [if_pos (show (convD 6).1 = 4 from rfl), eta]; exact text_f 6 n s k hs (by omega) (by decide)
      · rw [if_neg (by decide), if_neg (by decide), eta]; exact number_f 7 n s k (by omega) h0 h1 (by decide) (fun _ => (bool_nil c3).1)
      · rw [if_pos (show (convD 8).1 = 4 from rfl), eta]; exact text_f 8 n s k hs (by omega) (by decide)
      · rw [if_neg (by decide), if_neg (by decide), eta]; exact number_f 9 n s k (by omega) h0 h1 (by decide) (fun e => absurd e (by decide))
      · rw [if_neg (by decide), if_neg (by decide), eta]; exact number_f 10 n s k (by omega) h0 h1 (by decide) (fun e => absurd e (by decide))
      · rw [if_pos (show (convD 11).1 = 4 from rfl), eta]; exact text_f 11 n s k hs (by omega) (by decide)
      · rw [if_neg (by decide), if_pos (show (convD 12).1 = 5 from rfl), valid_le s hs k (by omega), Option.bind_some]
        have e : convDo 12 n s = (if utfValid s = true then (4, 0, s, 0) else (0, 0, ⟨#[]⟩, 62)) := rfl
        rw [e]
        by_cases u : utfValid s = true
        · rw [if_pos u, if_pos u]
        · rw [if_neg u, if_neg u]
    · have e4 : (kd != (convD x).1) = true := bne_iff_ne.2 c4
      rw [e4]
      exact bad (.inr (.inr c4))
  · rw [if_neg c3]
    exact bad (.inr (.inl (Bool.eq_false_iff.2 c3)))
end Go.Proofs.YthfhkfebkpdkcaaGreatDoor
namespace Go.Proofs.YthfhkfebkpdkcaaGreatDoor
open Go.RowKit Go.Lib Go.Proofs.YthfhkfebkpdkcaaGreatDoorW.PrintWords
set_option linter.unusedVariables false
set_option linter.unusedSimpArgs false

/-! ### ConvAll: operation by operation -/
/-- What a row lets in of an operation. -/
def GoodOp (x : P.S32) : Prop := 0 ≤ x.f1.f1 ∧ x.f1.f1 < 18446744073709551616 ∧ x.f1.f2.size ≤ 140737488355328
theorem rd_at (l : List P.S32) (i : Nat) (h : i < l.length) : P.rd_T32 l (i : Int) = l[i] := by
  unfold P.rd_T32
  rw [Int.toNat_natCast]
  simp [List.getD, h]
theorem much_l0 (l : List P.S32) (hl : l.length ≤ 9223372036854775806) (hg : ∀ x ∈ l, GoodOp x) : ∀ k i acc : Nat, i ≤ l.length → l.length - i < k → acc ≤ 140737505132544 →
    ∃ b, P.stratumlaw06_much.l0 k l (acc : Int) (i : Int) = some b ∧ (b = false → acc ≤ 16777216 ∧ ∀ j, i ≤ j → (h : j < l.length) → (l[j]).f1.f2.size ≤ 16777216) := by
  intro k
  induction k with
  | zero => intro i acc hi h; omega
  | succ k ih =>
    intro i acc hi hk ha
    rw [P.stratumlaw06_much.l0]
    by_cases h : i < l.length
    · rw [if_pos (by omega)]
      by_cases c : acc ≤ 16777216
      · rw [if_pos (by omega), if_pos (by omega), rd_at l i h]
        have hs := (hg _ (List.getElem_mem h)).2.2
        have e1 : wrap64 ((acc : Int) + ((l[i]).f1.f2.size : Int)) = ((acc + (l[i]).f1.f2.size : Nat) : Int) := by unfold wrap64; omega
        have e2 : wrap64 ((i : Int) + 1) = ((i + 1 : Nat) : Int) := by unfold wrap64; omega
        rw [e1, e2]
        obtain ⟨b, hb, hf⟩ := ih (i + 1) (acc + (l[i]).f1.f2.size) h (by clear e1 e2; omega) (by clear e1 e2; omega)
        refine ⟨b, hb, fun q => ⟨c, fun j hj hjl => ?_⟩⟩
        obtain ⟨f1, f2⟩ := hf q
        by_cases ej : j = i
        · subst ej
          clear e1 e2
          omega
        · exact f2 j (by omega) hjl
      · rw [if_neg (by omega)]
        exact ⟨_, rfl, fun q => absurd q (by rw [decide_eq_true (by omega)]; decide)⟩
    · rw [if_neg (by omega)]
      refine ⟨_, rfl, fun q => ⟨?_, fun j hj hjl => absurd hjl (by omega)⟩⟩
      have := of_decide_eq_false q
      omega
theorem all_l0 (l : List P.S32) (hl : l.length ≤ 9223372036854775806) (hg : ∀ x ∈ l, GoodOp x) (hs : ∀ j, (h : j < l.length) → (l[j]).f1.f2.size ≤ 16777216) : ∀ d k i : Nat, l.length - i = d → i ≤ l.length → 2 * d + 33554500 ≤ k →
    P.stratumlaw06_ConvAll.l0 k l true (i : Int) = some true := by
  intro d
  induction d with
  | zero =>
    intro k i hd hi hk
    obtain ⟨k, rfl⟩ : ∃ q, k = q + 2 := ⟨k - 2, by omega⟩
    rw [P.stratumlaw06_ConvAll.l0, if_neg (by omega), P.stratumlaw06_ConvAll.j2, if_neg (by decide)]
  | succ d ih =>
    intro k i hd hi hk
    obtain ⟨k, rfl⟩ : ∃ q, k = q + 2 := ⟨k - 2, by omega⟩
    have h : i < l.length := by omega
    have g := hg _ (List.getElem_mem h)
    have z := hs i h
    rw [P.stratumlaw06_ConvAll.l0, if_pos (by omega), P.stratumlaw06_ConvAll.j2, if_pos rfl, if_pos (by omega), if_pos (by omega), rd_at l i h]
    have fa : conv_Apply.f (l[i]).f0 (l[i]).f1.f0 (l[i]).f1.f1 (l[i]).f1.f2 = some (convApply (l[i]).f0 (l[i]).f1.f0 (l[i]).f1.f1 (l[i]).f1.f2) := if_pos ⟨g.1, g.2.1, by omega⟩
    rw [fa, Option.bind_some, rapply_f _ _ _ _ k (by omega) (by omega) g.1 g.2.1, Option.bind_some]
    have e2 : wrap64 ((i : Int) + 1) = ((i + 1 : Nat) : Int) := by unfold wrap64; omega
    rw [if_pos (by simp), e2, beq_self_eq_true]
    exact ih k (i + 1) (by clear e2; omega) h (by clear e2; omega)
theorem all_true (l : List P.S32) (hl : l.length ≤ 9223372036854775806) (hg : ∀ x ∈ l, GoodOp x) : ∃ k, P.stratumlaw06_ConvAll.f k l = some true := by
  obtain ⟨b, hb, hf⟩ := much_l0 l hl hg (2 * l.length + 33554501) 0 0 (by omega) (by omega) (by omega)
  refine ⟨2 * l.length + 33554501, ?_⟩
  unfold P.stratumlaw06_ConvAll.f stratumlaw06_awake.f P.stratumlaw06_much.f
  rw [Option.bind_some, if_pos rfl]
  have hb' : P.stratumlaw06_much.l0 (2 * l.length + 33554501) l 0 0 = some b := hb
  rw [hb', Option.bind_some, show 2 * l.length + 33554501 = (2 * l.length + 33554500) + 1 by omega, P.stratumlaw06_ConvAll.j0]
  cases b with
  | true => rw [if_pos rfl]
  | false =>
    rw [if_neg (by decide)]
    exact all_l0 l hl hg (fun j h => (hf rfl).2 j (by omega) h) l.length _ 0 (by omega) (by omega) (by omega)
end Go.Proofs.YthfhkfebkpdkcaaGreatDoor
namespace Go.Proofs.YthfhkfebkpdkcaaGreatDoor
open Go.ChangeShapes Go.WideShapes Go.ChangeAt Go.RowKit Go.Deep Go.Proofs.YthfhkfebkpdkcaaGreatDoorW.PrintWords
set_option linter.unusedVariables false
set_option linter.unusedSimpArgs false

/-! ### A list of operations, opened -/
abbrev opOf {H : Type} (o : P.S32) : DataW H := opD o.f0 o.f1.f0 o.f1.f1 o.f1.f2
section
variable {H : Type} {enc : TypeId × Value → H} {W : World} {base : Nat} {sp : Nat → Bool} {held : Bool}
theorem bytes_op : Tryz.prog.bytesOf 32 = 40 := by kernel_rfl
theorem ops_of {fuel : Nat} {cs : List Value} {y : DataW H × List MemPlace} (h : DataW.trod enc Tryz.prog W base sp held fuel 22 cs = some y) :
    ∃ (A : Option Addr) (cap : Nat) (l : List P.S32), cs = [.slice A l.length cap] ∧ l.length ≤ cap ∧ Kd.C P.k32 W A l.length l ∧ (∀ o ∈ l, (Lit.int .u64 o.f1.f1).wf = true) ∧
      (l = [] ∨ ∃ rest, y.1 = .slice (l.map opOf) rest) := by
  rcases open_slice Tryz.underlying22 h with ⟨rfl, rfl⟩ | ⟨a, len, cap, m, n, D, Pl, rfl, hb, hl, hm, hmm, rfl, hi⟩
  · exact ⟨none, 0, [], rfl, Nat.le_refl _, ⟨rfl, by simp, fun h => by simp at h⟩, fun o ho => (by cases ho), .inl rfl⟩
  · rw [cells_op] at hi
    have hle : len ≤ m := by rw [hmm]; split; exact hl; exact Nat.le_refl _
    have hx : ∀ i : Nat, ∃ o : P.S32, i < len → (Lit.int .u64 o.f1.f1).wf = true ∧ D i = opOf o ∧ ∀ (j : Nat) (u : Value), [Value.int .i64 o.f0, .int .i64 o.f1.f0, .int .u64 o.f1.f1, .string o.f1.f2][j]? = some u → W.cell? (a.add (i * 4 + j)) = some u := by
      intro i
      by_cases hil : i < len
      · obtain ⟨cs', hc, ht⟩ := hi i (by omega)
        obtain ⟨x, k, nn, s, rfl, e, w0, w1, w2, w3⟩ := op_of ht
        simp only [Prod.mk.injEq] at e
        refine ⟨⟨x, ⟨k, nn, s⟩⟩, fun _ => ⟨w2, e.1, fun j u hj => ?_⟩⟩
        obtain ⟨_, hcl, hat⟩ := World.cells?_some hc
        have hj4 : j < 4 := by
          have := (List.getElem?_eq_some_iff.1 hj).1
          simpa using this
        rw [← Go.Deep.add_add, hat j hj4]
        exact hj
      · exact ⟨P.z32, fun q => absurd q hil⟩
    obtain ⟨f, hf⟩ := Classical.axiomOfChoice hx
    have ll : ((List.range len).map f).length = len := by simp
    have mem : ∀ o ∈ (List.range len).map f, ∃ i, i < len ∧ o = f i := by
      intro o ho
      obtain ⟨i, hi', rfl⟩ := List.mem_map.1 ho
      exact ⟨i, List.mem_range.1 hi', rfl⟩
    refine ⟨some a, cap, (List.range len).map f, by rw [ll], by rw [ll]; exact hl, ⟨rfl, ?_, fun _ => ⟨a, rfl, ?_⟩⟩, fun o ho => ?_, .inr ⟨(List.range (m - len)).map fun j => D (len + j), ?_⟩⟩
    · rw [ll]
      have : maxLen = 9223372036854775807 := by decide
      omega
    · intro j p hj
      obtain ⟨hjl, rfl⟩ := List.getElem?_eq_some_iff.1 hj
      rw [ll] at hjl
      have ej : ((List.range len).map f)[j]'(by rw [ll]; exact hjl) = f j := by simp
      rw [ej]
      exact ⟨_, rfl, P.k32_mk W (f j), (hf j hjl).2.2⟩
    · obtain ⟨i, hil, rfl⟩ := mem o ho
      exact (hf i hil).1
    · show DataW.slice _ _ = _
      congr 1
      rw [List.map_map]
      refine List.map_congr_left fun i hi' => ?_
      exact (hf i (List.mem_range.1 hi')).2.1
set_option maxRecDepth 100000 in
theorem open_ops {r : Reach} {b0 : Nat} {v : Value} {d : DataW H} {p : List MemPlace} (hv : Value.okWide Tryz.prog W r b0 22 v) (h : DataW.Trod enc Tryz.prog W base sp held 22 v d p) :
    ∃ (A : Option Addr) (cap : Nat) (l : List P.S32), v = .slice A l.length cap ∧ l.length ≤ cap ∧ Kd.C P.k32 W A l.length l ∧ (∀ o ∈ l, (Lit.int .u64 o.f1.f1).wf = true) ∧
      (l = [] ∨ ∃ rest, d = .slice (l.map opOf) rest) := by
  obtain ⟨a, len, cap, rfl⟩ := okWide_slice Tryz.underlying22 hv
  obtain ⟨fuel, hf⟩ := h
  obtain ⟨A, cap', l, e, h1, h2, h3, h4⟩ := ops_of hf
  have e' : [Value.slice a len cap] = [.slice A l.length cap'] := e
  cases e'
  exact ⟨_, _, l, rfl, h1, h2, h3, h4⟩
set_option maxRecDepth 100000 in
theorem weigh_op (o : P.S32) : o.f1.f2.size ∈ DataW.weights Tryz.prog 32 (opOf (H := H) o) := by
  have e : o.f1.f2.data.toList.length = o.f1.f2.size := data_size _
  unfold DataW.weights
  simp only [Tryz.underlying32, List.map_cons, List.map_nil, DataW.weightsEach, DataW.weights, Tryz.underlying27, List.append_nil, List.nil_append, e, List.mem_singleton]
theorem weigh_all (l : List P.S32) : ∀ o ∈ l, o.f1.f2.size ∈ DataW.weightsAll Tryz.prog 32 (l.map (opOf (H := H))) := by
  induction l with
  | nil => intro o ho; cases ho
  | cons x r ih =>
    intro o ho
    rw [List.map_cons, DataW.weightsAll]
    rcases List.mem_cons.1 ho with rfl | ho
    · exact List.mem_append_left _ (weigh_op _)
    · exact List.mem_append_right _ (ih o ho)
end
end Go.Proofs.YthfhkfebkpdkcaaGreatDoor
