/- utf.Next answers a plain function of the text, for every text. -/
import Derived.Test.YthfhkfebkpdkcaaGreatDoorProg
import Derived.Test.YthfhkfebkpdkcaaGreatDoorUWWords
import Derived.WalkKit
import Derived.WalkSpells
import Derived.WalkLawsBesides
import Derived.Below
import Derived.Handy
import Derived.Lib.ConvBytes
import Derived.Lib.Strings
import Derived.Lib.Hide
namespace Go.Proofs.YthfhkfebkpdkcaaGreatDoor
open Go.RowKit Go.Proofs.YthfhkfebkpdkcaaGreatDoorW.PrintWords

theorem below_bytes {w w1 : World} (h : Below w.heap.size w w1) (e : TypeId) (s : ByteArray) : Below w.heap.size w (Lib.bytesWorld w1 e s) :=
  h.trans ⟨rfl, rfl, rfl, by rw [Lib.bytesWorld_size]; omega, fun k hk => Lib.bytesWorld_at_old _ _ _ _ (Nat.lt_of_lt_of_le hk h.size)⟩
/-- Byte i of s, as a number. -/
def nb (s : ByteArray) (i : Nat) : Nat := (s.data.toList.getD i 0).toNat
theorem nb_lt (s : ByteArray) (i : Nat) : nb s i < 256 := UInt8.toNat_lt _
theorem nb_eq (s : ByteArray) (i : Nat) (h : i < s.size) : (s[i]'h).toNat = nb s i := by
  have h2 : i < s.data.toList.length := by simpa using h
  unfold nb
  rw [List.getD_eq_getElem?_getD, List.getElem?_eq_getElem h2]
  rfl
theorem bt_nb (s : ByteArray) (i : Nat) (h : i < s.size) : bt s (i : Int) = (nb s i : Int) := by
  rw [← nb_eq s i h]
  simp [bt, h]
theorem cell_at (w : World) (e : TypeId) (s : ByteArray) (n j : Nat) (hn : n ≤ s.size) (hj : j + 1 < n) :
    (Lib.bytesWorld w e (s.extract 1 n)).cell? ⟨w.heap.size, j, none⟩ = some (.int .u8 (nb s (j + 1) : Int)) := by
  rw [Lib.bytesWorld_cell _ _ _ _ (by simp; omega)]
  have : (s.extract 1 n).data.toList.getD j 0 = s.data.toList.getD (j + 1) 0 := by
    simp only [ByteArray.data_extract, Array.toList_extract, List.getD_eq_getElem?_getD]
    simp only [List.extract_eq_take_drop, List.getElem?_take, List.getElem?_drop]
    rw [if_pos (by omega), Nat.add_comm 1 j]
  rw [this]
  rfl

theorem lead_e0 : ∀ b : Fin 256, (bits .and .i64 (b.val : Int) 224 == 192) = (decide (192 ≤ b.val) && decide (b.val < 224)) := by decide +kernel
theorem lead_f0 : ∀ b : Fin 256, (bits .and .i64 (b.val : Int) 240 == 224) = (decide (224 ≤ b.val) && decide (b.val < 240)) := by decide +kernel
theorem lead_f8 : ∀ b : Fin 256, (bits .and .i64 (b.val : Int) 248 == 240) = (decide (240 ≤ b.val) && decide (b.val < 248)) := by decide +kernel
theorem low_2 : ∀ b : Fin 256, bits .and .i64 (b.val : Int) 31 = ((b.val % 32 : Nat) : Int) := by decide +kernel
theorem low_3 : ∀ b : Fin 256, bits .and .i64 (b.val : Int) 15 = ((b.val % 16 : Nat) : Int) := by decide +kernel
theorem low_4 : ∀ b : Fin 256, bits .and .i64 (b.val : Int) 7 = ((b.val % 8 : Nat) : Int) := by decide +kernel
theorem top_c0 : ∀ b : Fin 256, (bits .and .u8 (b.val : Int) 192 != 128) = !(decide (128 ≤ b.val) && decide (b.val < 192)) := by decide +kernel
theorem low_3f : ∀ b : Fin 256, bits .and .u8 (b.val : Int) 63 = ((b.val % 64 : Nat) : Int) := by decide +kernel
theorem e0_yes (b : Nat) (h1 : 192 ≤ b) (h2 : b < 224) : (bits .and .i64 (b : Int) 224 == 192) = true := by
  have := lead_e0 ⟨b, by omega⟩; simpa [h1, h2] using this
theorem e0_no (b : Nat) (hb : b < 256) (h : b < 192 ∨ 224 ≤ b) : (bits .and .i64 (b : Int) 224 == 192) = false := by
  rw [lead_e0 ⟨b, hb⟩, ← Bool.decide_and]; exact decide_eq_false (by simp only; omega)
theorem f0_yes (b : Nat) (h1 : 224 ≤ b) (h2 : b < 240) : (bits .and .i64 (b : Int) 240 == 224) = true := by
  have := lead_f0 ⟨b, by omega⟩; simpa [h1, h2] using this
theorem f0_no (b : Nat) (hb : b < 256) (h : b < 224 ∨ 240 ≤ b) : (bits .and .i64 (b : Int) 240 == 224) = false := by
  rw [lead_f0 ⟨b, hb⟩, ← Bool.decide_and]; exact decide_eq_false (by simp only; omega)
theorem f8_yes (b : Nat) (h1 : 240 ≤ b) (h2 : b < 248) : (bits .and .i64 (b : Int) 248 == 240) = true := by
  have := lead_f8 ⟨b, by omega⟩; simpa [h1, h2] using this
theorem f8_no (b : Nat) (hb : b < 256) (h : b < 240 ∨ 248 ≤ b) : (bits .and .i64 (b : Int) 248 == 240) = false := by
  rw [lead_f8 ⟨b, hb⟩, ← Bool.decide_and]; exact decide_eq_false (by simp only; omega)
/-- A byte that goes on. -/
def goodB (b : Nat) : Prop := 128 ≤ b ∧ b < 192
instance (b : Nat) : Decidable (goodB b) := inferInstanceAs (Decidable (_ ∧ _))
theorem c0_good (b : Nat) (h : goodB b) : (bits .and .u8 (b : Int) 192 != 128) = false := by
  obtain ⟨h1, h2⟩ := h
  rw [top_c0 ⟨b, by omega⟩]; simp [h1, h2]
theorem c0_bad (b : Nat) (hb : b < 256) (h : ¬ goodB b) : (bits .and .u8 (b : Int) 192 != 128) = true := by
  rw [top_c0 ⟨b, hb⟩, ← Bool.decide_and]; unfold goodB at h; simp only [Bool.not_eq_true', decide_eq_false_iff_not]; exact h
theorem or_step (c d : Nat) (hc : c < 1048576) (hd : d < 64) : bits .or .i64 ((c : Int) * 64) (d : Int) = ((c * 64 + d : Nat) : Int) := by
  have e : (c : Int) * 64 = ((c * 64 : Nat) : Int) := by omega
  have e1 : (BitVec.ofInt 64 ((c * 64 : Nat) : Int)).toNat = c * 64 := by rw [BitVec.ofInt_natCast, BitVec.toNat_ofNat]; exact Nat.mod_eq_of_lt (by omega)
  have e2 : (BitVec.ofInt 64 (d : Int)).toNat = d := by rw [BitVec.ofInt_natCast, BitVec.toNat_ofNat]; exact Nat.mod_eq_of_lt (by omega)
  rw [e]
  show IntKind.i64.wrap ((BitVec.ofInt 64 ((c * 64 : Nat) : Int) ||| BitVec.ofInt 64 (d : Int)).toNat : Int) = _
  have e3 : c * 64 ||| d = c * 64 + d := by
    have := Nat.shiftLeft_add_eq_or_of_lt (show d < 2 ^ 6 from hd) c
    rw [Nat.shiftLeft_eq] at this
    exact this.symm
  rw [BitVec.toNat_or, e1, e2, e3, IntKind.wrap_i64]
  omega
theorem or_stepI (c d : Int) (c0 : 0 ≤ c) (hc : c < 1048576) (d0 : 0 ≤ d) (hd : d < 64) : bits .or .i64 (c * 64) d = c * 64 + d := by
  obtain ⟨c, rfl⟩ := Int.eq_ofNat_of_zero_le c0
  obtain ⟨d, rfl⟩ := Int.eq_ofNat_of_zero_le d0
  rw [or_step c d (by omega) (by omega)]
  omega
theorem nil_yes (s : ByteArray) (h : s.size = 0) : (s.toList == ([] : List UInt8)) = true := by
  have : s.data.toList = [] := List.eq_nil_of_length_eq_zero (by rw [← Lib.size_eq]; exact h)
  rw [Lib.toList_data, this]
  rfl
theorem nil_no (s : ByteArray) (h : 0 < s.size) : (s.toList == ([] : List UInt8)) = false := by
  refine beq_eq_false_iff_ne.2 fun e => ?_
  rw [Lib.toList_data] at e
  have h2 := Lib.size_eq s
  rw [e] at h2
  simp only [List.length_nil] at h2
  omega
/-- A character, or none. -/
def isChar (c : Nat) : Prop := c ≤ 1114111 ∧ ¬ (55296 ≤ c ∧ c ≤ 57343)
instance (c : Nat) : Decidable (isChar c) := inferInstanceAs (Decidable (_ ∧ _))
def utfFin (c n least : Nat) : Int × Int := if least ≤ c ∧ isChar c then ((c : Int), (n : Int)) else (-1, 1)
def utfNext (s : ByteArray) : Int × Int :=
  if s.size = 0 then (-1, 0)
  else if nb s 0 < 128 then ((nb s 0 : Int), 1)
  else if 192 ≤ nb s 0 ∧ nb s 0 < 224 then (if 2 ≤ s.size ∧ goodB (nb s 1) then utfFin (nb s 0 % 32 * 64 + nb s 1 % 64) 2 128 else (-1, 1))
  else if 224 ≤ nb s 0 ∧ nb s 0 < 240 then (if 3 ≤ s.size ∧ goodB (nb s 1) ∧ goodB (nb s 2) then utfFin ((nb s 0 % 16 * 64 + nb s 1 % 64) * 64 + nb s 2 % 64) 3 2048 else (-1, 1))
  else if 240 ≤ nb s 0 ∧ nb s 0 < 248 then (if 4 ≤ s.size ∧ goodB (nb s 1) ∧ goodB (nb s 2) ∧ goodB (nb s 3) then utfFin (((nb s 0 % 8 * 64 + nb s 1 % 64) * 64 + nb s 2 % 64) * 64 + nb s 3 % 64) 4 65536 else (-1, 1))
  else (-1, 1)

set_option maxRecDepth 100000 in
set_option maxHeartbeats 1000000 in
theorem next_nil (s : ByteArray) (w : World) (h : s.size = 0) : Calls Tryz.prog 62 #[.string s] w fun e w' => e = .returned (.tuple #[.int .i64 (-1), .int .i64 0]) ∧ Below w.heap.size w w' := by
  have e0 := nil_yes s h
  go_enter Tryz.func62, Tryz.ntmps62
  go_wp2
  go_ret2
  exact ⟨rfl, Below.refl _ _⟩
set_option maxRecDepth 100000 in
set_option maxHeartbeats 1000000 in
theorem next_ascii (s : ByteArray) (w : World) (b0 : Nat) (hs : 0 < s.size) (hb0 : (s[0]'hs).toNat = b0) (h : b0 < 128) : Calls Tryz.prog 62 #[.string s] w fun e w' => e = .returned (.tuple #[.int .i64 b0, .int .i64 1]) ∧ Below w.heap.size w w' := by
  have e0 := nil_no s hs
  have l0 : decide ((b0 : Int) < 128) = true := decide_eq_true (by omega)
  go_enter Tryz.func62, Tryz.ntmps62
  go_wp2
  go_ret2
  exact ⟨rfl, Below.refl _ _⟩
set_option maxRecDepth 100000 in
set_option maxHeartbeats 1000000 in
theorem next_other (s : ByteArray) (w : World) (b0 : Nat) (hs : 0 < s.size) (hb0 : (s[0]'hs).toNat = b0) (hb : b0 < 256) (h : 128 ≤ b0) (h1 : b0 < 192 ∨ 248 ≤ b0) : Calls Tryz.prog 62 #[.string s] w fun e w' => e = .returned (.tuple #[.int .i64 (-1), .int .i64 1]) ∧ Below w.heap.size w w' := by
  have e0 := nil_no s hs
  have l0 : decide ((b0 : Int) < 128) = false := decide_eq_false (by omega)
  have t1 := e0_no b0 hb (by omega)
  have t2 := f0_no b0 hb (by omega)
  have t3 := f8_no b0 hb (by omega)
  go_enter Tryz.func62, Tryz.ntmps62
  go_wp2
  go_ret2
  exact ⟨rfl, Below.refl _ _⟩
set_option maxRecDepth 100000 in
set_option maxHeartbeats 1000000 in
theorem next2_short (s : ByteArray) (w : World) (b0 : Nat) (hs : 0 < s.size) (hb0 : (s[0]'hs).toNat = b0) (h1 : 192 ≤ b0) (h2 : b0 < 224) (hn : s.size < 2) : Calls Tryz.prog 62 #[.string s] w fun e w' => e = .returned (.tuple #[.int .i64 (-1), .int .i64 1]) ∧ Below w.heap.size w w' := by
  have e0 := nil_no s hs
  have l0 : decide ((b0 : Int) < 128) = false := decide_eq_false (by omega)
  have t1 := e0_yes b0 h1 h2
  obtain ⟨c0, C0⟩ : ∃ c0 : Int, bits .and .i64 (b0 : Int) 31 = c0 := ⟨_, low_2 ⟨b0, by omega⟩⟩
  have hl : decide ((s.size : Int) < 2) = true := decide_eq_true (by omega)
  go_enter Tryz.func62, Tryz.ntmps62
  go_wp2
  go_ret2
  exact ⟨rfl, Below.refl _ _⟩
set_option maxRecDepth 100000 in
set_option maxHeartbeats 1000000 in
theorem next2_bad1 (s : ByteArray) (w : World) (b0 : Nat) (hs : 0 < s.size) (hb0 : (s[0]'hs).toNat = b0) (h1 : 192 ≤ b0) (h2 : b0 < 224) (hn : 2 ≤ s.size) (b1 : Nat) (hb1 : nb s 1 = b1) (hw : b1 < 256) (g1 : ¬ goodB b1) : Calls Tryz.prog 62 #[.string s] w fun e w' => e = .returned (.tuple #[.int .i64 (-1), .int .i64 1]) ∧ Below w.heap.size w w' := by
  have e0 := nil_no s hs
  have l0 : decide ((b0 : Int) < 128) = false := decide_eq_false (by omega)
  have t1 := e0_yes b0 h1 h2
  obtain ⟨c0, C0, hc0⟩ : ∃ c0 : Int, bits .and .i64 (b0 : Int) 31 = c0 ∧ Hid (c0 = ((b0 % 32 : Nat) : Int)) := ⟨_, low_2 ⟨b0, by omega⟩, rfl⟩
  have u0 : c0 < 32 := by have := hc0.out; omega
  have p0 : 0 ≤ c0 := by have := hc0.out; omega
  have q1 := c0_bad b1 hw g1
  have hl : decide ((s.size : Int) < 2) = false := decide_eq_false (by omega)
  have hB := below_bytes (Below.refl _ w) 5 (s.extract 1 2)
  have r1 : (Lib.bytesWorld w 5 (s.extract 1 2)).cell? ⟨w.heap.size, 0, none⟩ = some (.int .u8 b1) := by rw [← hb1]; exact cell_at w 5 s 2 0 hn (by omega)
  clear hb1
  have cv := fun (w : World) (s : ByteArray) => Lib.run_convert_string_bytes (P := Tryz.prog) w 9 33 5 s Tryz.underlying9 Tryz.underlying33 Tryz.underlying5
  go_enter Tryz.func62, Tryz.ntmps62
  go_wp2
  generalize Lib.bytesWorld w 5 (s.extract 1 2) = w1 at *
  clear cv
  refine wp_loop_rounds 2 ?_
  rw [rounds_succ]
  go_wp2
  go_ret2
  exact ⟨rfl, by first | exact hB | exact hB.drew⟩
set_option maxRecDepth 100000 in
set_option maxHeartbeats 1000000 in
theorem next2_less (s : ByteArray) (w : World) (b0 : Nat) (hs : 0 < s.size) (hb0 : (s[0]'hs).toNat = b0) (h1 : 192 ≤ b0) (h2 : b0 < 224) (hn : 2 ≤ s.size) (b1 : Nat) (hb1 : nb s 1 = b1) (g1 : goodB b1) (c : Int) (hc : c = ((b0 % 32 * 64 + b1 % 64 : Nat) : Int)) (k1 : c < 128) : Calls Tryz.prog 62 #[.string s] w fun e w' => e = .returned (.tuple #[.int .i64 (-1), .int .i64 1]) ∧ Below w.heap.size w w' := by
  have e0 := nil_no s hs
  have l0 : decide ((b0 : Int) < 128) = false := decide_eq_false (by omega)
  have t1 := e0_yes b0 h1 h2
  obtain ⟨c0, C0, hc0⟩ : ∃ c0 : Int, bits .and .i64 (b0 : Int) 31 = c0 ∧ Hid (c0 = ((b0 % 32 : Nat) : Int)) := ⟨_, low_2 ⟨b0, by omega⟩, rfl⟩
  have u0 : c0 < 32 := by have := hc0.out; omega
  have p0 : 0 ≤ c0 := by have := hc0.out; omega
  have q1 := c0_good b1 g1
  obtain ⟨d1, D1, hd1⟩ : ∃ d : Int, bits .and .u8 (b1 : Int) 63 = d ∧ Hid (d = ((b1 % 64 : Nat) : Int)) := ⟨_, low_3f ⟨b1, by have := g1.2; omega⟩, rfl⟩
  have v1 : d1 < 64 := by have := hd1.out; omega
  have y1 : 0 ≤ d1 := by have := hd1.out; omega
  obtain ⟨c1, C1, hc1⟩ : ∃ c' : Int, bits .or .i64 (c0 * 64) d1 = c' ∧ Hid (c' = c0 * 64 + d1) := ⟨_, or_stepI c0 d1 p0 (by omega) y1 v1, rfl⟩
  have u1 : c1 < 2048 := by have := hc1.out; omega
  have p1 : 0 ≤ c1 := by have := hc1.out; omega
  have ce : c1 = c := by have := hc0.out; have := hd1.out; have := hc1.out; omega
  subst ce
  have z1 : decide (c1 < 128) = true := decide_eq_true (by omega)
  have hl : decide ((s.size : Int) < 2) = false := decide_eq_false (by omega)
  have hB := below_bytes (Below.refl _ w) 5 (s.extract 1 2)
  have r1 : (Lib.bytesWorld w 5 (s.extract 1 2)).cell? ⟨w.heap.size, 0, none⟩ = some (.int .u8 b1) := by rw [← hb1]; exact cell_at w 5 s 2 0 hn (by omega)
  clear hb1 hc
  have cv := fun (w : World) (s : ByteArray) => Lib.run_convert_string_bytes (P := Tryz.prog) w 9 33 5 s Tryz.underlying9 Tryz.underlying33 Tryz.underlying5
  go_enter Tryz.func62, Tryz.ntmps62
  go_wp2
  generalize Lib.bytesWorld w 5 (s.extract 1 2) = w1 at *
  clear cv
  refine wp_loop_rounds 2 ?_
  rw [rounds_succ]
  go_wp2
  rw [rounds_succ]
  go_wp2
  go_ret2
  exact ⟨rfl, by first | exact hB | exact hB.drew⟩
set_option maxRecDepth 100000 in
set_option maxHeartbeats 1000000 in
theorem next2_ok (s : ByteArray) (w : World) (b0 : Nat) (hs : 0 < s.size) (hb0 : (s[0]'hs).toNat = b0) (h1 : 192 ≤ b0) (h2 : b0 < 224) (hn : 2 ≤ s.size) (b1 : Nat) (hb1 : nb s 1 = b1) (g1 : goodB b1) (c : Int) (hc : c = ((b0 % 32 * 64 + b1 % 64 : Nat) : Int)) (k1 : 128 ≤ c) : Calls Tryz.prog 62 #[.string s] w fun e w' => e = .returned (.tuple #[.int .i64 c, .int .i64 2]) ∧ Below w.heap.size w w' := by
  have e0 := nil_no s hs
  have l0 : decide ((b0 : Int) < 128) = false := decide_eq_false (by omega)
  have t1 := e0_yes b0 h1 h2
  obtain ⟨c0, C0, hc0⟩ : ∃ c0 : Int, bits .and .i64 (b0 : Int) 31 = c0 ∧ Hid (c0 = ((b0 % 32 : Nat) : Int)) := ⟨_, low_2 ⟨b0, by omega⟩, rfl⟩
  have u0 : c0 < 32 := by have := hc0.out; omega
  have p0 : 0 ≤ c0 := by have := hc0.out; omega
  have q1 := c0_good b1 g1
  obtain ⟨d1, D1, hd1⟩ : ∃ d : Int, bits .and .u8 (b1 : Int) 63 = d ∧ Hid (d = ((b1 % 64 : Nat) : Int)) := ⟨_, low_3f ⟨b1, by have := g1.2; omega⟩, rfl⟩
  have v1 : d1 < 64 := by have := hd1.out; omega
  have y1 : 0 ≤ d1 := by have := hd1.out; omega
  obtain ⟨c1, C1, hc1⟩ : ∃ c' : Int, bits .or .i64 (c0 * 64) d1 = c' ∧ Hid (c' = c0 * 64 + d1) := ⟨_, or_stepI c0 d1 p0 (by omega) y1 v1, rfl⟩
  have u1 : c1 < 2048 := by have := hc1.out; omega
  have p1 : 0 ≤ c1 := by have := hc1.out; omega
  have ce : c1 = c := by have := hc0.out; have := hd1.out; have := hc1.out; omega
  subst ce
  have z1 : decide (c1 < 128) = false := decide_eq_false (by omega)
  have z2 : decide (0 ≤ c1) = true := decide_eq_true (by omega)
  have z3 : decide (c1 ≤ 1114111) = true := decide_eq_true (by omega)
  have z4 : decide (c1 < 55296) = true := decide_eq_true (by omega)
  have hl : decide ((s.size : Int) < 2) = false := decide_eq_false (by omega)
  have hB := below_bytes (Below.refl _ w) 5 (s.extract 1 2)
  have r1 : (Lib.bytesWorld w 5 (s.extract 1 2)).cell? ⟨w.heap.size, 0, none⟩ = some (.int .u8 b1) := by rw [← hb1]; exact cell_at w 5 s 2 0 hn (by omega)
  clear hb1 hc
  have cv := fun (w : World) (s : ByteArray) => Lib.run_convert_string_bytes (P := Tryz.prog) w 9 33 5 s Tryz.underlying9 Tryz.underlying33 Tryz.underlying5
  go_enter Tryz.func62, Tryz.ntmps62
  go_wp2
  generalize Lib.bytesWorld w 5 (s.extract 1 2) = w1 at *
  clear cv
  refine wp_loop_rounds 2 ?_
  rw [rounds_succ]
  go_wp2
  rw [rounds_succ]
  go_wp2
  go_ret2
  exact ⟨rfl, by first | exact hB | exact hB.drew⟩
set_option maxRecDepth 100000 in
set_option maxHeartbeats 1000000 in
theorem next3_short (s : ByteArray) (w : World) (b0 : Nat) (hs : 0 < s.size) (hb0 : (s[0]'hs).toNat = b0) (h1 : 224 ≤ b0) (h2 : b0 < 240) (hn : s.size < 3) : Calls Tryz.prog 62 #[.string s] w fun e w' => e = .returned (.tuple #[.int .i64 (-1), .int .i64 1]) ∧ Below w.heap.size w w' := by
  have e0 := nil_no s hs
  have l0 : decide ((b0 : Int) < 128) = false := decide_eq_false (by omega)
  have t1 := e0_no b0 (by omega) (by omega)
  have t2 := f0_yes b0 h1 h2
  obtain ⟨c0, C0⟩ : ∃ c0 : Int, bits .and .i64 (b0 : Int) 15 = c0 := ⟨_, low_3 ⟨b0, by omega⟩⟩
  have hl : decide ((s.size : Int) < 3) = true := decide_eq_true (by omega)
  go_enter Tryz.func62, Tryz.ntmps62
  go_wp2
  go_ret2
  exact ⟨rfl, Below.refl _ _⟩
set_option maxRecDepth 100000 in
set_option maxHeartbeats 1000000 in
theorem next3_bad1 (s : ByteArray) (w : World) (b0 : Nat) (hs : 0 < s.size) (hb0 : (s[0]'hs).toNat = b0) (h1 : 224 ≤ b0) (h2 : b0 < 240) (hn : 3 ≤ s.size) (b1 : Nat) (hb1 : nb s 1 = b1) (hw : b1 < 256) (g1 : ¬ goodB b1) : Calls Tryz.prog 62 #[.string s] w fun e w' => e = .returned (.tuple #[.int .i64 (-1), .int .i64 1]) ∧ Below w.heap.size w w' := by
  have e0 := nil_no s hs
  have l0 : decide ((b0 : Int) < 128) = false := decide_eq_false (by omega)
  have t1 := e0_no b0 (by omega) (by omega)
  have t2 := f0_yes b0 h1 h2
  obtain ⟨c0, C0, hc0⟩ : ∃ c0 : Int, bits .and .i64 (b0 : Int) 15 = c0 ∧ Hid (c0 = ((b0 % 16 : Nat) : Int)) := ⟨_, low_3 ⟨b0, by omega⟩, rfl⟩
  have u0 : c0 < 16 := by have := hc0.out; omega
  have p0 : 0 ≤ c0 := by have := hc0.out; omega
  have q1 := c0_bad b1 hw g1
  have hl : decide ((s.size : Int) < 3) = false := decide_eq_false (by omega)
  have hB := below_bytes (Below.refl _ w) 5 (s.extract 1 3)
  have r1 : (Lib.bytesWorld w 5 (s.extract 1 3)).cell? ⟨w.heap.size, 0, none⟩ = some (.int .u8 b1) := by rw [← hb1]; exact cell_at w 5 s 3 0 hn (by omega)
  clear hb1
  have cv := fun (w : World) (s : ByteArray) => Lib.run_convert_string_bytes (P := Tryz.prog) w 9 33 5 s Tryz.underlying9 Tryz.underlying33 Tryz.underlying5
  go_enter Tryz.func62, Tryz.ntmps62
  go_wp2
  generalize Lib.bytesWorld w 5 (s.extract 1 3) = w1 at *
  clear cv
  refine wp_loop_rounds 3 ?_
  rw [rounds_succ]
  go_wp2
  go_ret2
  exact ⟨rfl, by first | exact hB | exact hB.drew⟩
set_option maxRecDepth 100000 in
set_option maxHeartbeats 1000000 in
theorem next3_bad2 (s : ByteArray) (w : World) (b0 : Nat) (hs : 0 < s.size) (hb0 : (s[0]'hs).toNat = b0) (h1 : 224 ≤ b0) (h2 : b0 < 240) (hn : 3 ≤ s.size) (b1 : Nat) (hb1 : nb s 1 = b1) (b2 : Nat) (hb2 : nb s 2 = b2) (g1 : goodB b1) (hw : b2 < 256) (g2 : ¬ goodB b2) : Calls Tryz.prog 62 #[.string s] w fun e w' => e = .returned (.tuple #[.int .i64 (-1), .int .i64 1]) ∧ Below w.heap.size w w' := by
  have e0 := nil_no s hs
  have l0 : decide ((b0 : Int) < 128) = false := decide_eq_false (by omega)
  have t1 := e0_no b0 (by omega) (by omega)
  have t2 := f0_yes b0 h1 h2
  obtain ⟨c0, C0, hc0⟩ : ∃ c0 : Int, bits .and .i64 (b0 : Int) 15 = c0 ∧ Hid (c0 = ((b0 % 16 : Nat) : Int)) := ⟨_, low_3 ⟨b0, by omega⟩, rfl⟩
  have u0 : c0 < 16 := by have := hc0.out; omega
  have p0 : 0 ≤ c0 := by have := hc0.out; omega
  have q1 := c0_good b1 g1
  obtain ⟨d1, D1, hd1⟩ : ∃ d : Int, bits .and .u8 (b1 : Int) 63 = d ∧ Hid (d = ((b1 % 64 : Nat) : Int)) := ⟨_, low_3f ⟨b1, by have := g1.2; omega⟩, rfl⟩
  have v1 : d1 < 64 := by have := hd1.out; omega
  have y1 : 0 ≤ d1 := by have := hd1.out; omega
  obtain ⟨c1, C1, hc1⟩ : ∃ c' : Int, bits .or .i64 (c0 * 64) d1 = c' ∧ Hid (c' = c0 * 64 + d1) := ⟨_, or_stepI c0 d1 p0 (by omega) y1 v1, rfl⟩
  have u1 : c1 < 1024 := by have := hc1.out; omega
  have p1 : 0 ≤ c1 := by have := hc1.out; omega
  have q2 := c0_bad b2 hw g2
  have hl : decide ((s.size : Int) < 3) = false := decide_eq_false (by omega)
  have hB := below_bytes (Below.refl _ w) 5 (s.extract 1 3)
  have r1 : (Lib.bytesWorld w 5 (s.extract 1 3)).cell? ⟨w.heap.size, 0, none⟩ = some (.int .u8 b1) := by rw [← hb1]; exact cell_at w 5 s 3 0 hn (by omega)
  have r2 : (Lib.bytesWorld w 5 (s.extract 1 3)).cell? ⟨w.heap.size, 1, none⟩ = some (.int .u8 b2) := by rw [← hb2]; exact cell_at w 5 s 3 1 hn (by omega)
  clear hb1 hb2
  have cv := fun (w : World) (s : ByteArray) => Lib.run_convert_string_bytes (P := Tryz.prog) w 9 33 5 s Tryz.underlying9 Tryz.underlying33 Tryz.underlying5
  go_enter Tryz.func62, Tryz.ntmps62
  go_wp2
  generalize Lib.bytesWorld w 5 (s.extract 1 3) = w1 at *
  clear cv
  refine wp_loop_rounds 3 ?_
  rw [rounds_succ]
  go_wp2
  rw [rounds_succ]
  go_wp2
  go_ret2
  exact ⟨rfl, by first | exact hB | exact hB.drew⟩
set_option maxRecDepth 100000 in
set_option maxHeartbeats 1000000 in
theorem next3_less (s : ByteArray) (w : World) (b0 : Nat) (hs : 0 < s.size) (hb0 : (s[0]'hs).toNat = b0) (h1 : 224 ≤ b0) (h2 : b0 < 240) (hn : 3 ≤ s.size) (b1 : Nat) (hb1 : nb s 1 = b1) (b2 : Nat) (hb2 : nb s 2 = b2) (g1 : goodB b1) (g2 : goodB b2) (c : Int) (hc : c = (((b0 % 16 * 64 + b1 % 64) * 64 + b2 % 64 : Nat) : Int)) (k1 : c < 2048) : Calls Tryz.prog 62 #[.string s] w fun e w' => e = .returned (.tuple #[.int .i64 (-1), .int .i64 1]) ∧ Below w.heap.size w w' := by
  have e0 := nil_no s hs
  have l0 : decide ((b0 : Int) < 128) = false := decide_eq_false (by omega)
  have t1 := e0_no b0 (by omega) (by omega)
  have t2 := f0_yes b0 h1 h2
  obtain ⟨c0, C0, hc0⟩ : ∃ c0 : Int, bits .and .i64 (b0 : Int) 15 = c0 ∧ Hid (c0 = ((b0 % 16 : Nat) : Int)) := ⟨_, low_3 ⟨b0, by omega⟩, rfl⟩
  have u0 : c0 < 16 := by have := hc0.out; omega
  have p0 : 0 ≤ c0 := by have := hc0.out; omega
  have q1 := c0_good b1 g1
  obtain ⟨d1, D1, hd1⟩ : ∃ d : Int, bits .and .u8 (b1 : Int) 63 = d ∧ Hid (d = ((b1 % 64 : Nat) : Int)) := ⟨_, low_3f ⟨b1, by have := g1.2; omega⟩, rfl⟩
  have v1 : d1 < 64 := by have := hd1.out; omega
  have y1 : 0 ≤ d1 := by have := hd1.out; omega
  obtain ⟨c1, C1, hc1⟩ : ∃ c' : Int, bits .or .i64 (c0 * 64) d1 = c' ∧ Hid (c' = c0 * 64 + d1) := ⟨_, or_stepI c0 d1 p0 (by omega) y1 v1, rfl⟩
  have u1 : c1 < 1024 := by have := hc1.out; omega
  have p1 : 0 ≤ c1 := by have := hc1.out; omega
  have q2 := c0_good b2 g2
  obtain ⟨d2, D2, hd2⟩ : ∃ d : Int, bits .and .u8 (b2 : Int) 63 = d ∧ Hid (d = ((b2 % 64 : Nat) : Int)) := ⟨_, low_3f ⟨b2, by have := g2.2; omega⟩, rfl⟩
  have v2 : d2 < 64 := by have := hd2.out; omega
  have y2 : 0 ≤ d2 := by have := hd2.out; omega
  obtain ⟨c2, C2, hc2⟩ : ∃ c' : Int, bits .or .i64 (c1 * 64) d2 = c' ∧ Hid (c' = c1 * 64 + d2) := ⟨_, or_stepI c1 d2 p1 (by omega) y2 v2, rfl⟩
  have u2 : c2 < 65536 := by have := hc2.out; omega
  have p2 : 0 ≤ c2 := by have := hc2.out; omega
  have ce : c2 = c := by have := hc0.out; have := hd1.out; have := hc1.out; have := hd2.out; have := hc2.out; omega
  subst ce
  have z1 : decide (c2 < 2048) = true := decide_eq_true (by omega)
  have hl : decide ((s.size : Int) < 3) = false := decide_eq_false (by omega)
  have hB := below_bytes (Below.refl _ w) 5 (s.extract 1 3)
  have r1 : (Lib.bytesWorld w 5 (s.extract 1 3)).cell? ⟨w.heap.size, 0, none⟩ = some (.int .u8 b1) := by rw [← hb1]; exact cell_at w 5 s 3 0 hn (by omega)
  have r2 : (Lib.bytesWorld w 5 (s.extract 1 3)).cell? ⟨w.heap.size, 1, none⟩ = some (.int .u8 b2) := by rw [← hb2]; exact cell_at w 5 s 3 1 hn (by omega)
  clear hb1 hb2 hc
  have cv := fun (w : World) (s : ByteArray) => Lib.run_convert_string_bytes (P := Tryz.prog) w 9 33 5 s Tryz.underlying9 Tryz.underlying33 Tryz.underlying5
  go_enter Tryz.func62, Tryz.ntmps62
  go_wp2
  generalize Lib.bytesWorld w 5 (s.extract 1 3) = w1 at *
  clear cv
  refine wp_loop_rounds 3 ?_
  rw [rounds_succ]
  go_wp2
  rw [rounds_succ]
  go_wp2
  rw [rounds_succ]
  go_wp2
  go_ret2
  exact ⟨rfl, by first | exact hB | exact hB.drew⟩
set_option maxRecDepth 100000 in
set_option maxHeartbeats 1000000 in
theorem next3_sur (s : ByteArray) (w : World) (b0 : Nat) (hs : 0 < s.size) (hb0 : (s[0]'hs).toNat = b0) (h1 : 224 ≤ b0) (h2 : b0 < 240) (hn : 3 ≤ s.size) (b1 : Nat) (hb1 : nb s 1 = b1) (b2 : Nat) (hb2 : nb s 2 = b2) (g1 : goodB b1) (g2 : goodB b2) (c : Int) (hc : c = (((b0 % 16 * 64 + b1 % 64) * 64 + b2 % 64 : Nat) : Int)) (k2 : 55296 ≤ c) (k3 : c ≤ 57343) : Calls Tryz.prog 62 #[.string s] w fun e w' => e = .returned (.tuple #[.int .i64 (-1), .int .i64 1]) ∧ Below w.heap.size w w' := by
  have e0 := nil_no s hs
  have l0 : decide ((b0 : Int) < 128) = false := decide_eq_false (by omega)
  have t1 := e0_no b0 (by omega) (by omega)
  have t2 := f0_yes b0 h1 h2
  obtain ⟨c0, C0, hc0⟩ : ∃ c0 : Int, bits .and .i64 (b0 : Int) 15 = c0 ∧ Hid (c0 = ((b0 % 16 : Nat) : Int)) := ⟨_, low_3 ⟨b0, by omega⟩, rfl⟩
  have u0 : c0 < 16 := by have := hc0.out; omega
  have p0 : 0 ≤ c0 := by have := hc0.out; omega
  have q1 := c0_good b1 g1
  obtain ⟨d1, D1, hd1⟩ : ∃ d : Int, bits .and .u8 (b1 : Int) 63 = d ∧ Hid (d = ((b1 % 64 : Nat) : Int)) := ⟨_, low_3f ⟨b1, by have := g1.2; omega⟩, rfl⟩
  have v1 : d1 < 64 := by have := hd1.out; omega
  have y1 : 0 ≤ d1 := by have := hd1.out; omega
  obtain ⟨c1, C1, hc1⟩ : ∃ c' : Int, bits .or .i64 (c0 * 64) d1 = c' ∧ Hid (c' = c0 * 64 + d1) := ⟨_, or_stepI c0 d1 p0 (by omega) y1 v1, rfl⟩
  have u1 : c1 < 1024 := by have := hc1.out; omega
  have p1 : 0 ≤ c1 := by have := hc1.out; omega
  have q2 := c0_good b2 g2
  obtain ⟨d2, D2, hd2⟩ : ∃ d : Int, bits .and .u8 (b2 : Int) 63 = d ∧ Hid (d = ((b2 % 64 : Nat) : Int)) := ⟨_, low_3f ⟨b2, by have := g2.2; omega⟩, rfl⟩
  have v2 : d2 < 64 := by have := hd2.out; omega
  have y2 : 0 ≤ d2 := by have := hd2.out; omega
  obtain ⟨c2, C2, hc2⟩ : ∃ c' : Int, bits .or .i64 (c1 * 64) d2 = c' ∧ Hid (c' = c1 * 64 + d2) := ⟨_, or_stepI c1 d2 p1 (by omega) y2 v2, rfl⟩
  have u2 : c2 < 65536 := by have := hc2.out; omega
  have p2 : 0 ≤ c2 := by have := hc2.out; omega
  have ce : c2 = c := by have := hc0.out; have := hd1.out; have := hc1.out; have := hd2.out; have := hc2.out; omega
  subst ce
  have z1 : decide (c2 < 2048) = false := decide_eq_false (by omega)
  have z2 : decide (0 ≤ c2) = true := decide_eq_true (by omega)
  have z3 : decide (c2 ≤ 1114111) = true := decide_eq_true (by omega)
  have z4 : decide (c2 < 55296) = false := decide_eq_false (by omega)
  have z5 : decide (57343 < c2) = false := decide_eq_false (by omega)
  have hl : decide ((s.size : Int) < 3) = false := decide_eq_false (by omega)
  have hB := below_bytes (Below.refl _ w) 5 (s.extract 1 3)
  have r1 : (Lib.bytesWorld w 5 (s.extract 1 3)).cell? ⟨w.heap.size, 0, none⟩ = some (.int .u8 b1) := by rw [← hb1]; exact cell_at w 5 s 3 0 hn (by omega)
  have r2 : (Lib.bytesWorld w 5 (s.extract 1 3)).cell? ⟨w.heap.size, 1, none⟩ = some (.int .u8 b2) := by rw [← hb2]; exact cell_at w 5 s 3 1 hn (by omega)
  clear hb1 hb2 hc
  have cv := fun (w : World) (s : ByteArray) => Lib.run_convert_string_bytes (P := Tryz.prog) w 9 33 5 s Tryz.underlying9 Tryz.underlying33 Tryz.underlying5
  go_enter Tryz.func62, Tryz.ntmps62
  go_wp2
  generalize Lib.bytesWorld w 5 (s.extract 1 3) = w1 at *
  clear cv
  refine wp_loop_rounds 3 ?_
  rw [rounds_succ]
  go_wp2
  rw [rounds_succ]
  go_wp2
  rw [rounds_succ]
  go_wp2
  go_ret2
  exact ⟨rfl, by first | exact hB | exact hB.drew⟩
set_option maxRecDepth 100000 in
set_option maxHeartbeats 1000000 in
theorem next3_low (s : ByteArray) (w : World) (b0 : Nat) (hs : 0 < s.size) (hb0 : (s[0]'hs).toNat = b0) (h1 : 224 ≤ b0) (h2 : b0 < 240) (hn : 3 ≤ s.size) (b1 : Nat) (hb1 : nb s 1 = b1) (b2 : Nat) (hb2 : nb s 2 = b2) (g1 : goodB b1) (g2 : goodB b2) (c : Int) (hc : c = (((b0 % 16 * 64 + b1 % 64) * 64 + b2 % 64 : Nat) : Int)) (k1 : 2048 ≤ c) (k2 : c < 55296) : Calls Tryz.prog 62 #[.string s] w fun e w' => e = .returned (.tuple #[.int .i64 c, .int .i64 3]) ∧ Below w.heap.size w w' := by
  have e0 := nil_no s hs
  have l0 : decide ((b0 : Int) < 128) = false := decide_eq_false (by omega)
  have t1 := e0_no b0 (by omega) (by omega)
  have t2 := f0_yes b0 h1 h2
  obtain ⟨c0, C0, hc0⟩ : ∃ c0 : Int, bits .and .i64 (b0 : Int) 15 = c0 ∧ Hid (c0 = ((b0 % 16 : Nat) : Int)) := ⟨_, low_3 ⟨b0, by omega⟩, rfl⟩
  have u0 : c0 < 16 := by have := hc0.out; omega
  have p0 : 0 ≤ c0 := by have := hc0.out; omega
  have q1 := c0_good b1 g1
  obtain ⟨d1, D1, hd1⟩ : ∃ d : Int, bits .and .u8 (b1 : Int) 63 = d ∧ Hid (d = ((b1 % 64 : Nat) : Int)) := ⟨_, low_3f ⟨b1, by have := g1.2; omega⟩, rfl⟩
  have v1 : d1 < 64 := by have := hd1.out; omega
  have y1 : 0 ≤ d1 := by have := hd1.out; omega
  obtain ⟨c1, C1, hc1⟩ : ∃ c' : Int, bits .or .i64 (c0 * 64) d1 = c' ∧ Hid (c' = c0 * 64 + d1) := ⟨_, or_stepI c0 d1 p0 (by omega) y1 v1, rfl⟩
  have u1 : c1 < 1024 := by have := hc1.out; omega
  have p1 : 0 ≤ c1 := by have := hc1.out; omega
  have q2 := c0_good b2 g2
  obtain ⟨d2, D2, hd2⟩ : ∃ d : Int, bits .and .u8 (b2 : Int) 63 = d ∧ Hid (d = ((b2 % 64 : Nat) : Int)) := ⟨_, low_3f ⟨b2, by have := g2.2; omega⟩, rfl⟩
  have v2 : d2 < 64 := by have := hd2.out; omega
  have y2 : 0 ≤ d2 := by have := hd2.out; omega
  obtain ⟨c2, C2, hc2⟩ : ∃ c' : Int, bits .or .i64 (c1 * 64) d2 = c' ∧ Hid (c' = c1 * 64 + d2) := ⟨_, or_stepI c1 d2 p1 (by omega) y2 v2, rfl⟩
  have u2 : c2 < 65536 := by have := hc2.out; omega
  have p2 : 0 ≤ c2 := by have := hc2.out; omega
  have ce : c2 = c := by have := hc0.out; have := hd1.out; have := hc1.out; have := hd2.out; have := hc2.out; omega
  subst ce
  have z1 : decide (c2 < 2048) = false := decide_eq_false (by omega)
  have z2 : decide (0 ≤ c2) = true := decide_eq_true (by omega)
  have z3 : decide (c2 ≤ 1114111) = true := decide_eq_true (by omega)
  have z4 : decide (c2 < 55296) = true := decide_eq_true (by omega)
  have hl : decide ((s.size : Int) < 3) = false := decide_eq_false (by omega)
  have hB := below_bytes (Below.refl _ w) 5 (s.extract 1 3)
  have r1 : (Lib.bytesWorld w 5 (s.extract 1 3)).cell? ⟨w.heap.size, 0, none⟩ = some (.int .u8 b1) := by rw [← hb1]; exact cell_at w 5 s 3 0 hn (by omega)
  have r2 : (Lib.bytesWorld w 5 (s.extract 1 3)).cell? ⟨w.heap.size, 1, none⟩ = some (.int .u8 b2) := by rw [← hb2]; exact cell_at w 5 s 3 1 hn (by omega)
  clear hb1 hb2 hc
  have cv := fun (w : World) (s : ByteArray) => Lib.run_convert_string_bytes (P := Tryz.prog) w 9 33 5 s Tryz.underlying9 Tryz.underlying33 Tryz.underlying5
  go_enter Tryz.func62, Tryz.ntmps62
  go_wp2
  generalize Lib.bytesWorld w 5 (s.extract 1 3) = w1 at *
  clear cv
  refine wp_loop_rounds 3 ?_
  rw [rounds_succ]
  go_wp2
  rw [rounds_succ]
  go_wp2
  rw [rounds_succ]
  go_wp2
  go_ret2
  exact ⟨rfl, by first | exact hB | exact hB.drew⟩
set_option maxRecDepth 100000 in
set_option maxHeartbeats 1000000 in
theorem next3_high (s : ByteArray) (w : World) (b0 : Nat) (hs : 0 < s.size) (hb0 : (s[0]'hs).toNat = b0) (h1 : 224 ≤ b0) (h2 : b0 < 240) (hn : 3 ≤ s.size) (b1 : Nat) (hb1 : nb s 1 = b1) (b2 : Nat) (hb2 : nb s 2 = b2) (g1 : goodB b1) (g2 : goodB b2) (c : Int) (hc : c = (((b0 % 16 * 64 + b1 % 64) * 64 + b2 % 64 : Nat) : Int)) (k2 : 57343 < c) : Calls Tryz.prog 62 #[.string s] w fun e w' => e = .returned (.tuple #[.int .i64 c, .int .i64 3]) ∧ Below w.heap.size w w' := by
  have e0 := nil_no s hs
  have l0 : decide ((b0 : Int) < 128) = false := decide_eq_false (by omega)
  have t1 := e0_no b0 (by omega) (by omega)
  have t2 := f0_yes b0 h1 h2
  obtain ⟨c0, C0, hc0⟩ : ∃ c0 : Int, bits .and .i64 (b0 : Int) 15 = c0 ∧ Hid (c0 = ((b0 % 16 : Nat) : Int)) := ⟨_, low_3 ⟨b0, by omega⟩, rfl⟩
  have u0 : c0 < 16 := by have := hc0.out; omega
  have p0 : 0 ≤ c0 := by have := hc0.out; omega
  have q1 := c0_good b1 g1
  obtain ⟨d1, D1, hd1⟩ : ∃ d : Int, bits .and .u8 (b1 : Int) 63 = d ∧ Hid (d = ((b1 % 64 : Nat) : Int)) := ⟨_, low_3f ⟨b1, by have := g1.2; omega⟩, rfl⟩
  have v1 : d1 < 64 := by have := hd1.out; omega
  have y1 : 0 ≤ d1 := by have := hd1.out; omega
  obtain ⟨c1, C1, hc1⟩ : ∃ c' : Int, bits .or .i64 (c0 * 64) d1 = c' ∧ Hid (c' = c0 * 64 + d1) := ⟨_, or_stepI c0 d1 p0 (by omega) y1 v1, rfl⟩
  have u1 : c1 < 1024 := by have := hc1.out; omega
  have p1 : 0 ≤ c1 := by have := hc1.out; omega
  have q2 := c0_good b2 g2
  obtain ⟨d2, D2, hd2⟩ : ∃ d : Int, bits .and .u8 (b2 : Int) 63 = d ∧ Hid (d = ((b2 % 64 : Nat) : Int)) := ⟨_, low_3f ⟨b2, by have := g2.2; omega⟩, rfl⟩
  have v2 : d2 < 64 := by have := hd2.out; omega
  have y2 : 0 ≤ d2 := by have := hd2.out; omega
  obtain ⟨c2, C2, hc2⟩ : ∃ c' : Int, bits .or .i64 (c1 * 64) d2 = c' ∧ Hid (c' = c1 * 64 + d2) := ⟨_, or_stepI c1 d2 p1 (by omega) y2 v2, rfl⟩
  have u2 : c2 < 65536 := by have := hc2.out; omega
  have p2 : 0 ≤ c2 := by have := hc2.out; omega
  have ce : c2 = c := by have := hc0.out; have := hd1.out; have := hc1.out; have := hd2.out; have := hc2.out; omega
  subst ce
  have z1 : decide (c2 < 2048) = false := decide_eq_false (by omega)
  have z2 : decide (0 ≤ c2) = true := decide_eq_true (by omega)
  have z3 : decide (c2 ≤ 1114111) = true := decide_eq_true (by omega)
  have z4 : decide (c2 < 55296) = false := decide_eq_false (by omega)
  have z5 : decide (57343 < c2) = true := decide_eq_true (by omega)
  have hl : decide ((s.size : Int) < 3) = false := decide_eq_false (by omega)
  have hB := below_bytes (Below.refl _ w) 5 (s.extract 1 3)
  have r1 : (Lib.bytesWorld w 5 (s.extract 1 3)).cell? ⟨w.heap.size, 0, none⟩ = some (.int .u8 b1) := by rw [← hb1]; exact cell_at w 5 s 3 0 hn (by omega)
  have r2 : (Lib.bytesWorld w 5 (s.extract 1 3)).cell? ⟨w.heap.size, 1, none⟩ = some (.int .u8 b2) := by rw [← hb2]; exact cell_at w 5 s 3 1 hn (by omega)
  clear hb1 hb2 hc
  have cv := fun (w : World) (s : ByteArray) => Lib.run_convert_string_bytes (P := Tryz.prog) w 9 33 5 s Tryz.underlying9 Tryz.underlying33 Tryz.underlying5
  go_enter Tryz.func62, Tryz.ntmps62
  go_wp2
  generalize Lib.bytesWorld w 5 (s.extract 1 3) = w1 at *
  clear cv
  refine wp_loop_rounds 3 ?_
  rw [rounds_succ]
  go_wp2
  rw [rounds_succ]
  go_wp2
  rw [rounds_succ]
  go_wp2
  go_ret2
  exact ⟨rfl, by first | exact hB | exact hB.drew⟩
set_option maxRecDepth 100000 in
set_option maxHeartbeats 1000000 in
theorem next4_short (s : ByteArray) (w : World) (b0 : Nat) (hs : 0 < s.size) (hb0 : (s[0]'hs).toNat = b0) (h1 : 240 ≤ b0) (h2 : b0 < 248) (hn : s.size < 4) : Calls Tryz.prog 62 #[.string s] w fun e w' => e = .returned (.tuple #[.int .i64 (-1), .int .i64 1]) ∧ Below w.heap.size w w' := by
  have e0 := nil_no s hs
  have l0 : decide ((b0 : Int) < 128) = false := decide_eq_false (by omega)
  have t1 := e0_no b0 (by omega) (by omega)
  have t2 := f0_no b0 (by omega) (by omega)
  have t3 := f8_yes b0 h1 h2
  obtain ⟨c0, C0⟩ : ∃ c0 : Int, bits .and .i64 (b0 : Int) 7 = c0 := ⟨_, low_4 ⟨b0, by omega⟩⟩
  have hl : decide ((s.size : Int) < 4) = true := decide_eq_true (by omega)
  go_enter Tryz.func62, Tryz.ntmps62
  go_wp2
  go_ret2
  exact ⟨rfl, Below.refl _ _⟩
set_option maxRecDepth 100000 in
set_option maxHeartbeats 1000000 in
theorem next4_bad1 (s : ByteArray) (w : World) (b0 : Nat) (hs : 0 < s.size) (hb0 : (s[0]'hs).toNat = b0) (h1 : 240 ≤ b0) (h2 : b0 < 248) (hn : 4 ≤ s.size) (b1 : Nat) (hb1 : nb s 1 = b1) (hw : b1 < 256) (g1 : ¬ goodB b1) : Calls Tryz.prog 62 #[.string s] w fun e w' => e = .returned (.tuple #[.int .i64 (-1), .int .i64 1]) ∧ Below w.heap.size w w' := by
  have e0 := nil_no s hs
  have l0 : decide ((b0 : Int) < 128) = false := decide_eq_false (by omega)
  have t1 := e0_no b0 (by omega) (by omega)
  have t2 := f0_no b0 (by omega) (by omega)
  have t3 := f8_yes b0 h1 h2
  obtain ⟨c0, C0, hc0⟩ : ∃ c0 : Int, bits .and .i64 (b0 : Int) 7 = c0 ∧ Hid (c0 = ((b0 % 8 : Nat) : Int)) := ⟨_, low_4 ⟨b0, by omega⟩, rfl⟩
  have u0 : c0 < 8 := by have := hc0.out; omega
  have p0 : 0 ≤ c0 := by have := hc0.out; omega
  have q1 := c0_bad b1 hw g1
  have hl : decide ((s.size : Int) < 4) = false := decide_eq_false (by omega)
  have hB := below_bytes (Below.refl _ w) 5 (s.extract 1 4)
  have r1 : (Lib.bytesWorld w 5 (s.extract 1 4)).cell? ⟨w.heap.size, 0, none⟩ = some (.int .u8 b1) := by rw [← hb1]; exact cell_at w 5 s 4 0 hn (by omega)
  clear hb1
  have cv := fun (w : World) (s : ByteArray) => Lib.run_convert_string_bytes (P := Tryz.prog) w 9 33 5 s Tryz.underlying9 Tryz.underlying33 Tryz.underlying5
  go_enter Tryz.func62, Tryz.ntmps62
  go_wp2
  generalize Lib.bytesWorld w 5 (s.extract 1 4) = w1 at *
  clear cv
  refine wp_loop_rounds 4 ?_
  rw [rounds_succ]
  go_wp2
  go_ret2
  exact ⟨rfl, by first | exact hB | exact hB.drew⟩
set_option maxRecDepth 100000 in
set_option maxHeartbeats 1000000 in
theorem next4_bad2 (s : ByteArray) (w : World) (b0 : Nat) (hs : 0 < s.size) (hb0 : (s[0]'hs).toNat = b0) (h1 : 240 ≤ b0) (h2 : b0 < 248) (hn : 4 ≤ s.size) (b1 : Nat) (hb1 : nb s 1 = b1) (b2 : Nat) (hb2 : nb s 2 = b2) (g1 : goodB b1) (hw : b2 < 256) (g2 : ¬ goodB b2) : Calls Tryz.prog 62 #[.string s] w fun e w' => e = .returned (.tuple #[.int .i64 (-1), .int .i64 1]) ∧ Below w.heap.size w w' := by
  have e0 := nil_no s hs
  have l0 : decide ((b0 : Int) < 128) = false := decide_eq_false (by omega)
  have t1 := e0_no b0 (by omega) (by omega)
  have t2 := f0_no b0 (by omega) (by omega)
  have t3 := f8_yes b0 h1 h2
  obtain ⟨c0, C0, hc0⟩ : ∃ c0 : Int, bits .and .i64 (b0 : Int) 7 = c0 ∧ Hid (c0 = ((b0 % 8 : Nat) : Int)) := ⟨_, low_4 ⟨b0, by omega⟩, rfl⟩
  have u0 : c0 < 8 := by have := hc0.out; omega
  have p0 : 0 ≤ c0 := by have := hc0.out; omega
  have q1 := c0_good b1 g1
  obtain ⟨d1, D1, hd1⟩ : ∃ d : Int, bits .and .u8 (b1 : Int) 63 = d ∧ Hid (d = ((b1 % 64 : Nat) : Int)) := ⟨_, low_3f ⟨b1, by have := g1.2; omega⟩, rfl⟩
  have v1 : d1 < 64 := by have := hd1.out; omega
  have y1 : 0 ≤ d1 := by have := hd1.out; omega
  obtain ⟨c1, C1, hc1⟩ : ∃ c' : Int, bits .or .i64 (c0 * 64) d1 = c' ∧ Hid (c' = c0 * 64 + d1) := ⟨_, or_stepI c0 d1 p0 (by omega) y1 v1, rfl⟩
  have u1 : c1 < 512 := by have := hc1.out; omega
  have p1 : 0 ≤ c1 := by have := hc1.out; omega
  have q2 := c0_bad b2 hw g2
  have hl : decide ((s.size : Int) < 4) = false := decide_eq_false (by omega)
  have hB := below_bytes (Below.refl _ w) 5 (s.extract 1 4)
  have r1 : (Lib.bytesWorld w 5 (s.extract 1 4)).cell? ⟨w.heap.size, 0, none⟩ = some (.int .u8 b1) := by rw [← hb1]; exact cell_at w 5 s 4 0 hn (by omega)
  have r2 : (Lib.bytesWorld w 5 (s.extract 1 4)).cell? ⟨w.heap.size, 1, none⟩ = some (.int .u8 b2) := by rw [← hb2]; exact cell_at w 5 s 4 1 hn (by omega)
  clear hb1 hb2
  have cv := fun (w : World) (s : ByteArray) => Lib.run_convert_string_bytes (P := Tryz.prog) w 9 33 5 s Tryz.underlying9 Tryz.underlying33 Tryz.underlying5
  go_enter Tryz.func62, Tryz.ntmps62
  go_wp2
  generalize Lib.bytesWorld w 5 (s.extract 1 4) = w1 at *
  clear cv
  refine wp_loop_rounds 4 ?_
  rw [rounds_succ]
  go_wp2
  rw [rounds_succ]
  go_wp2
  go_ret2
  exact ⟨rfl, by first | exact hB | exact hB.drew⟩
set_option maxRecDepth 100000 in
set_option maxHeartbeats 1000000 in
theorem next4_bad3 (s : ByteArray) (w : World) (b0 : Nat) (hs : 0 < s.size) (hb0 : (s[0]'hs).toNat = b0) (h1 : 240 ≤ b0) (h2 : b0 < 248) (hn : 4 ≤ s.size) (b1 : Nat) (hb1 : nb s 1 = b1) (b2 : Nat) (hb2 : nb s 2 = b2) (b3 : Nat) (hb3 : nb s 3 = b3) (g1 : goodB b1) (g2 : goodB b2) (hw : b3 < 256) (g3 : ¬ goodB b3) : Calls Tryz.prog 62 #[.string s] w fun e w' => e = .returned (.tuple #[.int .i64 (-1), .int .i64 1]) ∧ Below w.heap.size w w' := by
  have e0 := nil_no s hs
  have l0 : decide ((b0 : Int) < 128) = false := decide_eq_false (by omega)
  have t1 := e0_no b0 (by omega) (by omega)
  have t2 := f0_no b0 (by omega) (by omega)
  have t3 := f8_yes b0 h1 h2
  obtain ⟨c0, C0, hc0⟩ : ∃ c0 : Int, bits .and .i64 (b0 : Int) 7 = c0 ∧ Hid (c0 = ((b0 % 8 : Nat) : Int)) := ⟨_, low_4 ⟨b0, by omega⟩, rfl⟩
  have u0 : c0 < 8 := by have := hc0.out; omega
  have p0 : 0 ≤ c0 := by have := hc0.out; omega
  have q1 := c0_good b1 g1
  obtain ⟨d1, D1, hd1⟩ : ∃ d : Int, bits .and .u8 (b1 : Int) 63 = d ∧ Hid (d = ((b1 % 64 : Nat) : Int)) := ⟨_, low_3f ⟨b1, by have := g1.2; omega⟩, rfl⟩
  have v1 : d1 < 64 := by have := hd1.out; omega
  have y1 : 0 ≤ d1 := by have := hd1.out; omega
  obtain ⟨c1, C1, hc1⟩ : ∃ c' : Int, bits .or .i64 (c0 * 64) d1 = c' ∧ Hid (c' = c0 * 64 + d1) := ⟨_, or_stepI c0 d1 p0 (by omega) y1 v1, rfl⟩
  have u1 : c1 < 512 := by have := hc1.out; omega
  have p1 : 0 ≤ c1 := by have := hc1.out; omega
  have q2 := c0_good b2 g2
  obtain ⟨d2, D2, hd2⟩ : ∃ d : Int, bits .and .u8 (b2 : Int) 63 = d ∧ Hid (d = ((b2 % 64 : Nat) : Int)) := ⟨_, low_3f ⟨b2, by have := g2.2; omega⟩, rfl⟩
  have v2 : d2 < 64 := by have := hd2.out; omega
  have y2 : 0 ≤ d2 := by have := hd2.out; omega
  obtain ⟨c2, C2, hc2⟩ : ∃ c' : Int, bits .or .i64 (c1 * 64) d2 = c' ∧ Hid (c' = c1 * 64 + d2) := ⟨_, or_stepI c1 d2 p1 (by omega) y2 v2, rfl⟩
  have u2 : c2 < 32768 := by have := hc2.out; omega
  have p2 : 0 ≤ c2 := by have := hc2.out; omega
  have q3 := c0_bad b3 hw g3
  have hl : decide ((s.size : Int) < 4) = false := decide_eq_false (by omega)
  have hB := below_bytes (Below.refl _ w) 5 (s.extract 1 4)
  have r1 : (Lib.bytesWorld w 5 (s.extract 1 4)).cell? ⟨w.heap.size, 0, none⟩ = some (.int .u8 b1) := by rw [← hb1]; exact cell_at w 5 s 4 0 hn (by omega)
  have r2 : (Lib.bytesWorld w 5 (s.extract 1 4)).cell? ⟨w.heap.size, 1, none⟩ = some (.int .u8 b2) := by rw [← hb2]; exact cell_at w 5 s 4 1 hn (by omega)
  have r3 : (Lib.bytesWorld w 5 (s.extract 1 4)).cell? ⟨w.heap.size, 2, none⟩ = some (.int .u8 b3) := by rw [← hb3]; exact cell_at w 5 s 4 2 hn (by omega)
  clear hb1 hb2 hb3
  have cv := fun (w : World) (s : ByteArray) => Lib.run_convert_string_bytes (P := Tryz.prog) w 9 33 5 s Tryz.underlying9 Tryz.underlying33 Tryz.underlying5
  go_enter Tryz.func62, Tryz.ntmps62
  go_wp2
  generalize Lib.bytesWorld w 5 (s.extract 1 4) = w1 at *
  clear cv
  refine wp_loop_rounds 4 ?_
  rw [rounds_succ]
  go_wp2
  rw [rounds_succ]
  go_wp2
  rw [rounds_succ]
  go_wp2
  go_ret2
  exact ⟨rfl, by first | exact hB | exact hB.drew⟩
set_option maxRecDepth 100000 in
set_option maxHeartbeats 1000000 in
theorem next4_less (s : ByteArray) (w : World) (b0 : Nat) (hs : 0 < s.size) (hb0 : (s[0]'hs).toNat = b0) (h1 : 240 ≤ b0) (h2 : b0 < 248) (hn : 4 ≤ s.size) (b1 : Nat) (hb1 : nb s 1 = b1) (b2 : Nat) (hb2 : nb s 2 = b2) (b3 : Nat) (hb3 : nb s 3 = b3) (g1 : goodB b1) (g2 : goodB b2) (g3 : goodB b3) (c : Int) (hc : c = ((((b0 % 8 * 64 + b1 % 64) * 64 + b2 % 64) * 64 + b3 % 64 : Nat) : Int)) (k1 : c < 65536) : Calls Tryz.prog 62 #[.string s] w fun e w' => e = .returned (.tuple #[.int .i64 (-1), .int .i64 1]) ∧ Below w.heap.size w w' := by
  have e0 := nil_no s hs
  have l0 : decide ((b0 : Int) < 128) = false := decide_eq_false (by omega)
  have t1 := e0_no b0 (by omega) (by omega)
  have t2 := f0_no b0 (by omega) (by omega)
  have t3 := f8_yes b0 h1 h2
  obtain ⟨c0, C0, hc0⟩ : ∃ c0 : Int, bits .and .i64 (b0 : Int) 7 = c0 ∧ Hid (c0 = ((b0 % 8 : Nat) : Int)) := ⟨_, low_4 ⟨b0, by omega⟩, rfl⟩
  have u0 : c0 < 8 := by have := hc0.out; omega
  have p0 : 0 ≤ c0 := by have := hc0.out; omega
  have q1 := c0_good b1 g1
  obtain ⟨d1, D1, hd1⟩ : ∃ d : Int, bits .and .u8 (b1 : Int) 63 = d ∧ Hid (d = ((b1 % 64 : Nat) : Int)) := ⟨_, low_3f ⟨b1, by have := g1.2; omega⟩, rfl⟩
  have v1 : d1 < 64 := by have := hd1.out; omega
  have y1 : 0 ≤ d1 := by have := hd1.out; omega
  obtain ⟨c1, C1, hc1⟩ : ∃ c' : Int, bits .or .i64 (c0 * 64) d1 = c' ∧ Hid (c' = c0 * 64 + d1) := ⟨_, or_stepI c0 d1 p0 (by omega) y1 v1, rfl⟩
  have u1 : c1 < 512 := by have := hc1.out; omega
  have p1 : 0 ≤ c1 := by have := hc1.out; omega
  have q2 := c0_good b2 g2
  obtain ⟨d2, D2, hd2⟩ : ∃ d : Int, bits .and .u8 (b2 : Int) 63 = d ∧ Hid (d = ((b2 % 64 : Nat) : Int)) := ⟨_, low_3f ⟨b2, by have := g2.2; omega⟩, rfl⟩
  have v2 : d2 < 64 := by have := hd2.out; omega
  have y2 : 0 ≤ d2 := by have := hd2.out; omega
  obtain ⟨c2, C2, hc2⟩ : ∃ c' : Int, bits .or .i64 (c1 * 64) d2 = c' ∧ Hid (c' = c1 * 64 + d2) := ⟨_, or_stepI c1 d2 p1 (by omega) y2 v2, rfl⟩
  have u2 : c2 < 32768 := by have := hc2.out; omega
  have p2 : 0 ≤ c2 := by have := hc2.out; omega
  have q3 := c0_good b3 g3
  obtain ⟨d3, D3, hd3⟩ : ∃ d : Int, bits .and .u8 (b3 : Int) 63 = d ∧ Hid (d = ((b3 % 64 : Nat) : Int)) := ⟨_, low_3f ⟨b3, by have := g3.2; omega⟩, rfl⟩
  have v3 : d3 < 64 := by have := hd3.out; omega
  have y3 : 0 ≤ d3 := by have := hd3.out; omega
  obtain ⟨c3, C3, hc3⟩ : ∃ c' : Int, bits .or .i64 (c2 * 64) d3 = c' ∧ Hid (c' = c2 * 64 + d3) := ⟨_, or_stepI c2 d3 p2 (by omega) y3 v3, rfl⟩
  have u3 : c3 < 2097152 := by have := hc3.out; omega
  have p3 : 0 ≤ c3 := by have := hc3.out; omega
  have ce : c3 = c := by have := hc0.out; have := hd1.out; have := hc1.out; have := hd2.out; have := hc2.out; have := hd3.out; have := hc3.out; omega
  subst ce
  have z1 : decide (c3 < 65536) = true := decide_eq_true (by omega)
  have hl : decide ((s.size : Int) < 4) = false := decide_eq_false (by omega)
  have hB := below_bytes (Below.refl _ w) 5 (s.extract 1 4)
  have r1 : (Lib.bytesWorld w 5 (s.extract 1 4)).cell? ⟨w.heap.size, 0, none⟩ = some (.int .u8 b1) := by rw [← hb1]; exact cell_at w 5 s 4 0 hn (by omega)
  have r2 : (Lib.bytesWorld w 5 (s.extract 1 4)).cell? ⟨w.heap.size, 1, none⟩ = some (.int .u8 b2) := by rw [← hb2]; exact cell_at w 5 s 4 1 hn (by omega)
  have r3 : (Lib.bytesWorld w 5 (s.extract 1 4)).cell? ⟨w.heap.size, 2, none⟩ = some (.int .u8 b3) := by rw [← hb3]; exact cell_at w 5 s 4 2 hn (by omega)
  clear hb1 hb2 hb3 hc
  have cv := fun (w : World) (s : ByteArray) => Lib.run_convert_string_bytes (P := Tryz.prog) w 9 33 5 s Tryz.underlying9 Tryz.underlying33 Tryz.underlying5
  go_enter Tryz.func62, Tryz.ntmps62
  go_wp2
  generalize Lib.bytesWorld w 5 (s.extract 1 4) = w1 at *
  clear cv
  refine wp_loop_rounds 4 ?_
  rw [rounds_succ]
  go_wp2
  rw [rounds_succ]
  go_wp2
  rw [rounds_succ]
  go_wp2
  rw [rounds_succ]
  go_wp2
  go_ret2
  exact ⟨rfl, by first | exact hB | exact hB.drew⟩
set_option maxRecDepth 100000 in
set_option maxHeartbeats 1000000 in
theorem next4_big (s : ByteArray) (w : World) (b0 : Nat) (hs : 0 < s.size) (hb0 : (s[0]'hs).toNat = b0) (h1 : 240 ≤ b0) (h2 : b0 < 248) (hn : 4 ≤ s.size) (b1 : Nat) (hb1 : nb s 1 = b1) (b2 : Nat) (hb2 : nb s 2 = b2) (b3 : Nat) (hb3 : nb s 3 = b3) (g1 : goodB b1) (g2 : goodB b2) (g3 : goodB b3) (c : Int) (hc : c = ((((b0 % 8 * 64 + b1 % 64) * 64 + b2 % 64) * 64 + b3 % 64 : Nat) : Int)) (k2 : 1114111 < c) : Calls Tryz.prog 62 #[.string s] w fun e w' => e = .returned (.tuple #[.int .i64 (-1), .int .i64 1]) ∧ Below w.heap.size w w' := by
  have e0 := nil_no s hs
  have l0 : decide ((b0 : Int) < 128) = false := decide_eq_false (by omega)
  have t1 := e0_no b0 (by omega) (by omega)
  have t2 := f0_no b0 (by omega) (by omega)
  have t3 := f8_yes b0 h1 h2
  obtain ⟨c0, C0, hc0⟩ : ∃ c0 : Int, bits .and .i64 (b0 : Int) 7 = c0 ∧ Hid (c0 = ((b0 % 8 : Nat) : Int)) := ⟨_, low_4 ⟨b0, by omega⟩, rfl⟩
  have u0 : c0 < 8 := by have := hc0.out; omega
  have p0 : 0 ≤ c0 := by have := hc0.out; omega
  have q1 := c0_good b1 g1
  obtain ⟨d1, D1, hd1⟩ : ∃ d : Int, bits .and .u8 (b1 : Int) 63 = d ∧ Hid (d = ((b1 % 64 : Nat) : Int)) := ⟨_, low_3f ⟨b1, by have := g1.2; omega⟩, rfl⟩
  have v1 : d1 < 64 := by have := hd1.out; omega
  have y1 : 0 ≤ d1 := by have := hd1.out; omega
  obtain ⟨c1, C1, hc1⟩ : ∃ c' : Int, bits .or .i64 (c0 * 64) d1 = c' ∧ Hid (c' = c0 * 64 + d1) := ⟨_, or_stepI c0 d1 p0 (by omega) y1 v1, rfl⟩
  have u1 : c1 < 512 := by have := hc1.out; omega
  have p1 : 0 ≤ c1 := by have := hc1.out; omega
  have q2 := c0_good b2 g2
  obtain ⟨d2, D2, hd2⟩ : ∃ d : Int, bits .and .u8 (b2 : Int) 63 = d ∧ Hid (d = ((b2 % 64 : Nat) : Int)) := ⟨_, low_3f ⟨b2, by have := g2.2; omega⟩, rfl⟩
  have v2 : d2 < 64 := by have := hd2.out; omega
  have y2 : 0 ≤ d2 := by have := hd2.out; omega
  obtain ⟨c2, C2, hc2⟩ : ∃ c' : Int, bits .or .i64 (c1 * 64) d2 = c' ∧ Hid (c' = c1 * 64 + d2) := ⟨_, or_stepI c1 d2 p1 (by omega) y2 v2, rfl⟩
  have u2 : c2 < 32768 := by have := hc2.out; omega
  have p2 : 0 ≤ c2 := by have := hc2.out; omega
  have q3 := c0_good b3 g3
  obtain ⟨d3, D3, hd3⟩ : ∃ d : Int, bits .and .u8 (b3 : Int) 63 = d ∧ Hid (d = ((b3 % 64 : Nat) : Int)) := ⟨_, low_3f ⟨b3, by have := g3.2; omega⟩, rfl⟩
  have v3 : d3 < 64 := by have := hd3.out; omega
  have y3 : 0 ≤ d3 := by have := hd3.out; omega
  obtain ⟨c3, C3, hc3⟩ : ∃ c' : Int, bits .or .i64 (c2 * 64) d3 = c' ∧ Hid (c' = c2 * 64 + d3) := ⟨_, or_stepI c2 d3 p2 (by omega) y3 v3, rfl⟩
  have u3 : c3 < 2097152 := by have := hc3.out; omega
  have p3 : 0 ≤ c3 := by have := hc3.out; omega
  have ce : c3 = c := by have := hc0.out; have := hd1.out; have := hc1.out; have := hd2.out; have := hc2.out; have := hd3.out; have := hc3.out; omega
  subst ce
  have z1 : decide (c3 < 65536) = false := decide_eq_false (by omega)
  have z2 : decide (0 ≤ c3) = true := decide_eq_true (by omega)
  have z3 : decide (c3 ≤ 1114111) = false := decide_eq_false (by omega)
  have hl : decide ((s.size : Int) < 4) = false := decide_eq_false (by omega)
  have hB := below_bytes (Below.refl _ w) 5 (s.extract 1 4)
  have r1 : (Lib.bytesWorld w 5 (s.extract 1 4)).cell? ⟨w.heap.size, 0, none⟩ = some (.int .u8 b1) := by rw [← hb1]; exact cell_at w 5 s 4 0 hn (by omega)
  have r2 : (Lib.bytesWorld w 5 (s.extract 1 4)).cell? ⟨w.heap.size, 1, none⟩ = some (.int .u8 b2) := by rw [← hb2]; exact cell_at w 5 s 4 1 hn (by omega)
  have r3 : (Lib.bytesWorld w 5 (s.extract 1 4)).cell? ⟨w.heap.size, 2, none⟩ = some (.int .u8 b3) := by rw [← hb3]; exact cell_at w 5 s 4 2 hn (by omega)
  clear hb1 hb2 hb3 hc
  have cv := fun (w : World) (s : ByteArray) => Lib.run_convert_string_bytes (P := Tryz.prog) w 9 33 5 s Tryz.underlying9 Tryz.underlying33 Tryz.underlying5
  go_enter Tryz.func62, Tryz.ntmps62
  go_wp2
  generalize Lib.bytesWorld w 5 (s.extract 1 4) = w1 at *
  clear cv
  refine wp_loop_rounds 4 ?_
  rw [rounds_succ]
  go_wp2
  rw [rounds_succ]
  go_wp2
  rw [rounds_succ]
  go_wp2
  rw [rounds_succ]
  go_wp2
  go_ret2
  exact ⟨rfl, by first | exact hB | exact hB.drew⟩
set_option maxRecDepth 100000 in
set_option maxHeartbeats 1000000 in
theorem next4_ok (s : ByteArray) (w : World) (b0 : Nat) (hs : 0 < s.size) (hb0 : (s[0]'hs).toNat = b0) (h1 : 240 ≤ b0) (h2 : b0 < 248) (hn : 4 ≤ s.size) (b1 : Nat) (hb1 : nb s 1 = b1) (b2 : Nat) (hb2 : nb s 2 = b2) (b3 : Nat) (hb3 : nb s 3 = b3) (g1 : goodB b1) (g2 : goodB b2) (g3 : goodB b3) (c : Int) (hc : c = ((((b0 % 8 * 64 + b1 % 64) * 64 + b2 % 64) * 64 + b3 % 64 : Nat) : Int)) (k1 : 65536 ≤ c) (k2 : c ≤ 1114111) : Calls Tryz.prog 62 #[.string s] w fun e w' => e = .returned (.tuple #[.int .i64 c, .int .i64 4]) ∧ Below w.heap.size w w' := by
  have e0 := nil_no s hs
  have l0 : decide ((b0 : Int) < 128) = false := decide_eq_false (by omega)
  have t1 := e0_no b0 (by omega) (by omega)
  have t2 := f0_no b0 (by omega) (by omega)
  have t3 := f8_yes b0 h1 h2
  obtain ⟨c0, C0, hc0⟩ : ∃ c0 : Int, bits .and .i64 (b0 : Int) 7 = c0 ∧ Hid (c0 = ((b0 % 8 : Nat) : Int)) := ⟨_, low_4 ⟨b0, by omega⟩, rfl⟩
  have u0 : c0 < 8 := by have := hc0.out; omega
  have p0 : 0 ≤ c0 := by have := hc0.out; omega
  have q1 := c0_good b1 g1
  obtain ⟨d1, D1, hd1⟩ : ∃ d : Int, bits .and .u8 (b1 : Int) 63 = d ∧ Hid (d = ((b1 % 64 : Nat) : Int)) := ⟨_, low_3f ⟨b1, by have := g1.2; omega⟩, rfl⟩
  have v1 : d1 < 64 := by have := hd1.out; omega
  have y1 : 0 ≤ d1 := by have := hd1.out; omega
  obtain ⟨c1, C1, hc1⟩ : ∃ c' : Int, bits .or .i64 (c0 * 64) d1 = c' ∧ Hid (c' = c0 * 64 + d1) := ⟨_, or_stepI c0 d1 p0 (by omega) y1 v1, rfl⟩
  have u1 : c1 < 512 := by have := hc1.out; omega
  have p1 : 0 ≤ c1 := by have := hc1.out; omega
  have q2 := c0_good b2 g2
  obtain ⟨d2, D2, hd2⟩ : ∃ d : Int, bits .and .u8 (b2 : Int) 63 = d ∧ Hid (d = ((b2 % 64 : Nat) : Int)) := ⟨_, low_3f ⟨b2, by have := g2.2; omega⟩, rfl⟩
  have v2 : d2 < 64 := by have := hd2.out; omega
  have y2 : 0 ≤ d2 := by have := hd2.out; omega
  obtain ⟨c2, C2, hc2⟩ : ∃ c' : Int, bits .or .i64 (c1 * 64) d2 = c' ∧ Hid (c' = c1 * 64 + d2) := ⟨_, or_stepI c1 d2 p1 (by omega) y2 v2, rfl⟩
  have u2 : c2 < 32768 := by have := hc2.out; omega
  have p2 : 0 ≤ c2 := by have := hc2.out; omega
  have q3 := c0_good b3 g3
  obtain ⟨d3, D3, hd3⟩ : ∃ d : Int, bits .and .u8 (b3 : Int) 63 = d ∧ Hid (d = ((b3 % 64 : Nat) : Int)) := ⟨_, low_3f ⟨b3, by have := g3.2; omega⟩, rfl⟩
  have v3 : d3 < 64 := by have := hd3.out; omega
  have y3 : 0 ≤ d3 := by have := hd3.out; omega
  obtain ⟨c3, C3, hc3⟩ : ∃ c' : Int, bits .or .i64 (c2 * 64) d3 = c' ∧ Hid (c' = c2 * 64 + d3) := ⟨_, or_stepI c2 d3 p2 (by omega) y3 v3, rfl⟩
  have u3 : c3 < 2097152 := by have := hc3.out; omega
  have p3 : 0 ≤ c3 := by have := hc3.out; omega
  have ce : c3 = c := by have := hc0.out; have := hd1.out; have := hc1.out; have := hd2.out; have := hc2.out; have := hd3.out; have := hc3.out; omega
  subst ce
  have z1 : decide (c3 < 65536) = false := decide_eq_false (by omega)
  have z2 : decide (0 ≤ c3) = true := decide_eq_true (by omega)
  have z3 : decide (c3 ≤ 1114111) = true := decide_eq_true (by omega)
  have z4 : decide (c3 < 55296) = false := decide_eq_false (by omega)
  have z5 : decide (57343 < c3) = true := decide_eq_true (by omega)
  have hl : decide ((s.size : Int) < 4) = false := decide_eq_false (by omega)
  have hB := below_bytes (Below.refl _ w) 5 (s.extract 1 4)
  have r1 : (Lib.bytesWorld w 5 (s.extract 1 4)).cell? ⟨w.heap.size, 0, none⟩ = some (.int .u8 b1) := by rw [← hb1]; exact cell_at w 5 s 4 0 hn (by omega)
  have r2 : (Lib.bytesWorld w 5 (s.extract 1 4)).cell? ⟨w.heap.size, 1, none⟩ = some (.int .u8 b2) := by rw [← hb2]; exact cell_at w 5 s 4 1 hn (by omega)
  have r3 : (Lib.bytesWorld w 5 (s.extract 1 4)).cell? ⟨w.heap.size, 2, none⟩ = some (.int .u8 b3) := by rw [← hb3]; exact cell_at w 5 s 4 2 hn (by omega)
  clear hb1 hb2 hb3 hc
  have cv := fun (w : World) (s : ByteArray) => Lib.run_convert_string_bytes (P := Tryz.prog) w 9 33 5 s Tryz.underlying9 Tryz.underlying33 Tryz.underlying5
  go_enter Tryz.func62, Tryz.ntmps62
  go_wp2
  generalize Lib.bytesWorld w 5 (s.extract 1 4) = w1 at *
  clear cv
  refine wp_loop_rounds 4 ?_
  rw [rounds_succ]
  go_wp2
  rw [rounds_succ]
  go_wp2
  rw [rounds_succ]
  go_wp2
  rw [rounds_succ]
  go_wp2
  go_ret2
  exact ⟨rfl, by first | exact hB | exact hB.drew⟩

def utf_Next.f (s : ByteArray) : Option (Int × Int) := some (utfNext s)
theorem utfFin_yes {c n l : Nat} (h : l ≤ c ∧ isChar c) : utfFin c n l = ((c : Int), (n : Int)) := if_pos h
theorem utfFin_no {c n l : Nat} (h : ¬ (l ≤ c ∧ isChar c)) : utfFin c n l = (-1, 1) := if_neg h
theorem utf_Next.calls (a0 : ByteArray) (r1 : Int) (r2 : Int) (w : World) (h : utf_Next.f a0 = some (r1, r2)) :
    Calls Tryz.prog 62 #[.string a0] w fun e w' => e = .returned (.tuple #[.int .i64 r1, .int .i64 r2]) ∧ Below w.heap.size w w' := by
  have H : utfNext a0 = (r1, r2) := Option.some.inj h
  clear h
  unfold utfNext at H
  by_cases z : a0.size = 0
  · rw [if_pos z] at H
    obtain ⟨rfl, rfl⟩ := Prod.mk.inj H
    exact next_nil a0 w z
  rw [if_neg z] at H
  have hs : 0 < a0.size := by omega
  have hb0 := nb_eq a0 0 hs
  have hb := nb_lt a0 0
  by_cases a : nb a0 0 < 128
  · rw [if_pos a] at H
    obtain ⟨rfl, rfl⟩ := Prod.mk.inj H
    exact next_ascii a0 w _ hs hb0 a
  rw [if_neg a] at H
  by_cases l2 : 192 ≤ nb a0 0 ∧ nb a0 0 < 224
  · rw [if_pos l2] at H
    by_cases s2 : ¬ (2 ≤ a0.size)
    · rw [if_neg (fun q => s2 q.1)] at H
      obtain ⟨rfl, rfl⟩ := Prod.mk.inj H
      exact next2_short a0 w _ hs hb0 l2.1 l2.2 (by omega)
    replace s2 := Decidable.not_not.1 s2
    by_cases g1 : ¬ goodB (nb a0 1)
    · rw [if_neg (fun q => g1 q.2)] at H
      obtain ⟨rfl, rfl⟩ := Prod.mk.inj H
      exact next2_bad1 a0 w _ hs hb0 l2.1 l2.2 s2 _ rfl (nb_lt a0 1) g1
    replace g1 := Decidable.not_not.1 g1
    rw [if_pos ⟨s2, g1⟩] at H
    generalize hc : nb a0 0 % 32 * 64 + nb a0 1 % 64 = c at H
    have hcb : c < 2048 := by omega
    by_cases k1 : c < 128
    · rw [utfFin_no (fun q => by omega)] at H
      obtain ⟨rfl, rfl⟩ := Prod.mk.inj H
      exact next2_less a0 w _ hs hb0 l2.1 l2.2 s2 _ rfl g1 (c : Int) (by rw [hc]) (by omega)
    · rw [utfFin_yes (⟨by omega, by unfold isChar; omega⟩)] at H
      obtain ⟨rfl, rfl⟩ := Prod.mk.inj H
      exact next2_ok a0 w _ hs hb0 l2.1 l2.2 s2 _ rfl g1 (c : Int) (by rw [hc]) (by omega)
  rw [if_neg l2] at H
  by_cases l3 : 224 ≤ nb a0 0 ∧ nb a0 0 < 240
  · rw [if_pos l3] at H
    by_cases s3 : ¬ (3 ≤ a0.size)
    · rw [if_neg (fun q => s3 q.1)] at H
      obtain ⟨rfl, rfl⟩ := Prod.mk.inj H
      exact next3_short a0 w _ hs hb0 l3.1 l3.2 (by omega)
    replace s3 := Decidable.not_not.1 s3
    by_cases g1 : ¬ goodB (nb a0 1)
    · rw [if_neg (fun q => g1 q.2.1)] at H
      obtain ⟨rfl, rfl⟩ := Prod.mk.inj H
      exact next3_bad1 a0 w _ hs hb0 l3.1 l3.2 s3 _ rfl (nb_lt a0 1) g1
    replace g1 := Decidable.not_not.1 g1
    by_cases g2 : ¬ goodB (nb a0 2)
    · rw [if_neg (fun q => g2 q.2.2)] at H
      obtain ⟨rfl, rfl⟩ := Prod.mk.inj H
      exact next3_bad2 a0 w _ hs hb0 l3.1 l3.2 s3 _ rfl _ rfl g1 (nb_lt a0 2) g2
    replace g2 := Decidable.not_not.1 g2
    rw [if_pos ⟨s3, g1, g2⟩] at H
    generalize hc : (nb a0 0 % 16 * 64 + nb a0 1 % 64) * 64 + nb a0 2 % 64 = c at H
    have hcb : c < 65536 := by omega
    by_cases k1 : c < 2048
    · rw [utfFin_no (fun q => by omega)] at H
      obtain ⟨rfl, rfl⟩ := Prod.mk.inj H
      exact next3_less a0 w _ hs hb0 l3.1 l3.2 s3 _ rfl _ rfl g1 g2 (c : Int) (by rw [hc]) (by omega)
    by_cases k2 : c < 55296
    · rw [utfFin_yes (⟨by omega, by unfold isChar; omega⟩)] at H
      obtain ⟨rfl, rfl⟩ := Prod.mk.inj H
      exact next3_low a0 w _ hs hb0 l3.1 l3.2 s3 _ rfl _ rfl g1 g2 (c : Int) (by rw [hc]) (by omega) (by omega)
    by_cases k3 : c ≤ 57343
    · rw [utfFin_no (fun q => by unfold isChar at q; omega)] at H
      obtain ⟨rfl, rfl⟩ := Prod.mk.inj H
      exact next3_sur a0 w _ hs hb0 l3.1 l3.2 s3 _ rfl _ rfl g1 g2 (c : Int) (by rw [hc]) (by omega) (by omega)
    · rw [utfFin_yes (⟨by omega, by unfold isChar; omega⟩)] at H
      obtain ⟨rfl, rfl⟩ := Prod.mk.inj H
      exact next3_high a0 w _ hs hb0 l3.1 l3.2 s3 _ rfl _ rfl g1 g2 (c : Int) (by rw [hc]) (by omega)
  rw [if_neg l3] at H
  by_cases l4 : 240 ≤ nb a0 0 ∧ nb a0 0 < 248
  · rw [if_pos l4] at H
    by_cases s4 : ¬ (4 ≤ a0.size)
    · rw [if_neg (fun q => s4 q.1)] at H
      obtain ⟨rfl, rfl⟩ := Prod.mk.inj H
      exact next4_short a0 w _ hs hb0 l4.1 l4.2 (by omega)
    replace s4 := Decidable.not_not.1 s4
    by_cases g1 : ¬ goodB (nb a0 1)
    · rw [if_neg (fun q => g1 q.2.1)] at H
      obtain ⟨rfl, rfl⟩ := Prod.mk.inj H
      exact next4_bad1 a0 w _ hs hb0 l4.1 l4.2 s4 _ rfl (nb_lt a0 1) g1
    replace g1 := Decidable.not_not.1 g1
    by_cases g2 : ¬ goodB (nb a0 2)
    · rw [if_neg (fun q => g2 q.2.2.1)] at H
      obtain ⟨rfl, rfl⟩ := Prod.mk.inj H
      exact next4_bad2 a0 w _ hs hb0 l4.1 l4.2 s4 _ rfl _ rfl g1 (nb_lt a0 2) g2
    replace g2 := Decidable.not_not.1 g2
    by_cases g3 : ¬ goodB (nb a0 3)
    · rw [if_neg (fun q => g3 q.2.2.2)] at H
      obtain ⟨rfl, rfl⟩ := Prod.mk.inj H
      exact next4_bad3 a0 w _ hs hb0 l4.1 l4.2 s4 _ rfl _ rfl _ rfl g1 g2 (nb_lt a0 3) g3
    replace g3 := Decidable.not_not.1 g3
    rw [if_pos ⟨s4, g1, g2, g3⟩] at H
    generalize hc : ((nb a0 0 % 8 * 64 + nb a0 1 % 64) * 64 + nb a0 2 % 64) * 64 + nb a0 3 % 64 = c at H
    have hcb : c < 2097152 := by omega
    by_cases k1 : c < 65536
    · rw [utfFin_no (fun q => by omega)] at H
      obtain ⟨rfl, rfl⟩ := Prod.mk.inj H
      exact next4_less a0 w _ hs hb0 l4.1 l4.2 s4 _ rfl _ rfl _ rfl g1 g2 g3 (c : Int) (by rw [hc]) (by omega)
    by_cases k2 : 1114111 < c
    · rw [utfFin_no (fun q => by unfold isChar at q; omega)] at H
      obtain ⟨rfl, rfl⟩ := Prod.mk.inj H
      exact next4_big a0 w _ hs hb0 l4.1 l4.2 s4 _ rfl _ rfl _ rfl g1 g2 g3 (c : Int) (by rw [hc]) (by omega)
    · rw [utfFin_yes (⟨by omega, by unfold isChar; omega⟩)] at H
      obtain ⟨rfl, rfl⟩ := Prod.mk.inj H
      exact next4_ok a0 w _ hs hb0 l4.1 l4.2 s4 _ rfl _ rfl _ rfl g1 g2 g3 (c : Int) (by rw [hc]) (by omega) (by omega)
  rw [if_neg l4] at H
  obtain ⟨rfl, rfl⟩ := Prod.mk.inj H
  exact next_other a0 w _ hs hb0 hb (by omega) (by omega)
end Go.Proofs.YthfhkfebkpdkcaaGreatDoor
