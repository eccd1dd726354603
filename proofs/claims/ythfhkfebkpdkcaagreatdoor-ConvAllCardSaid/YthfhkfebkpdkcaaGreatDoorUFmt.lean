/- strconv.FormatUint and FormatInt at base 10, and FormatBool, for every number, where the world is laid. -/
import Derived.Test.YthfhkfebkpdkcaaGreatDoorULaid
import Derived.Test.YthfhkfebkpdkcaaGreatDoorUShelf
import Derived.Lib.Walk
import Derived.Lib.ItoaMem
import Derived.Lib.AppendIntMem
import Derived.WalkKit
import Derived.BigCall
import Derived.BigGuard
import Derived.Outline
namespace Go.Proofs.YthfhkfebkpdkcaaGreatDoor
open Go.RowKit Go.Sort Go.Lib Go.Shelf

theorem below_grow0 (w : World) (k : Nat) (os : Array Obj) : Below w.heap.size w (grow (w.drewN k) os) := Lib.below_grow _ w (Nat.le_refl _) k os

set_option maxHeartbeats 4000000 in
set_option maxRecDepth 100000 in
theorem fmtUint_in (u : Nat) (hu64 : u < 18446744073709551616) (w : World) (htab : Lib.TabIs Tryz.prog w "internal/strconv.uint64pow10" .u64 Lib.pow10Tab) :
    Calls Tryz.prog 95 #[.int .u64 u, .int .i64 10] w fun e w' => e = .returned (.string ⟨(Lib.decDigits u).toArray⟩) ∧ Below w.heap.size w w' := by
  by_cases hs : u < 100
  · go_enter Tryz.func95, Tryz.ntmps95
    go_wp2_with (go_at_call 103; refine (Tryz.internal_strconv_small u hs _).mono ?_; rintro e w' ⟨rfl, rfl⟩)
    go_ret
    exact ⟨rfl, Below.refl _ _⟩
  · have hu1 : 1 ≤ u := by omega
    have hnd20 : Lib.nDigits u ≤ 20 := by have := Lib.numDigits_eq u hu1 hu64; split at this <;> omega
    have hal : Tryz.prog.arrayLen 100 = 24 := by simp [Program.arrayLen, Tryz.underlying100]
    have hsl1 : ∀ W, (Instr.sliceAt 100 (.pointer (some ⟨w.heap.size, 0, none⟩)) none (some (.int .i64 (Lib.nDigits u : Int))) none).run Tryz.prog W = .ok (.slice (some ⟨w.heap.size, 0, none⟩) (Lib.nDigits u) 24) W := fun W => by
      rw [run_sliceAt_array_h W 100 ⟨w.heap.size, 0, none⟩ (by simp [Program.arrayLen, Program.elem, Tryz.underlying100]) .i64 (Lib.nDigits u : Int) (by omega) (by rw [hal]; omega)]
      go_simp
    have hH0 := Lib.holds_zero0 w 100 (Lib.nDigits u) (by omega)
    have hfmt := Tryz.internal_strconv_formatBase10 w.heap.size 0 24 u (Array.replicate (Lib.nDigits u) 0) (w.alloc (.cells Lib.zeros24 100)) hH0 (by rw [Array.size_replicate]; exact Lib.lt_pow_nDigits u) hu64 (by rw [Array.size_replicate]; omega)
    rw [Array.size_replicate] at hfmt
    have HH0 := Lib.hid hH0
    clear hH0 hal
    go_enter Tryz.func95, Tryz.ntmps95
    go_wp2_with (first
      | (go_at_call 104; refine (Tryz.internal_strconv_numDigits u hu1 hu64 _ (Lib.tabIs_alloc htab _)).mono ?_; rintro e w' ⟨rfl, rfl⟩))
    go_at_call 105
    refine hfmt.mono ?_
    rintro e w' ⟨rfl, k, v', dk, rfl, hF⟩
    have hcv : (convert 33 9 (.slice (some ⟨w.heap.size, 0, none⟩) (Lib.nDigits u) 24)).run Tryz.prog ((putRow (fun (b : UInt8) => Value.int .u8 (b.toNat : Int)) (w.alloc (.cells Lib.zeros24 100)) w.heap.size 0 dk).drewN k) = .ok (.string ⟨(Lib.decDigits u).toArray⟩) ((putRow (fun (b : UInt8) => Value.int .u8 (b.toNat : Int)) (w.alloc (.cells Lib.zeros24 100)) w.heap.size 0 dk).drewN k) := by
      have h := run_convert_bytes_back (P := Tryz.prog) ((putRow (fun (b : UInt8) => Value.int .u8 (b.toNat : Int)) (w.alloc (.cells Lib.zeros24 100)) w.heap.size 0 dk).drewN k) 33 9 5 ⟨w.heap.size, 0, none⟩ 24 (Lib.decDigits u) Tryz.underlying33 Tryz.underlying5 Tryz.underlying9 (fun j hj => by
        rw [Lib.row_is_numeral hF j hj, Lib.add_plain, World.cell?_drewN]
        exact cell?_putRow (fun (b : UInt8) => Value.int .u8 (b.toNat : Int)) _ w.heap.size 0 _ dk HH0.out (by rw [hF.size, Array.size_replicate]) j (by rw [hF.size]; rw [Lib.decDigits_length] at hj; exact hj))
      rw [Lib.decDigits_length] at h
      exact h
    go_wp2
    go_ret
    obtain ⟨os, eo⟩ := Lib.fin_at w (.cells Lib.zeros24 100) dk k 0
    exact ⟨rfl, by rw [eo]; exact below_grow0 w k os⟩

theorem fmtUint_any (u : Nat) (hu64 : u < 18446744073709551616) (w : World) (htab : Lib.TabIs Tryz.prog w "internal/strconv.uint64pow10" .u64 Lib.pow10Tab) :
    Calls Tryz.prog 72 #[.int .u64 u, .int .i64 10] w fun e w' => e = .returned (.string ⟨(Lib.decDigits u).toArray⟩) ∧ Below w.heap.size w w' := by
  have H := Lib.hid (fmtUint_in u hu64 w htab)
  go_enter Tryz.func72, Tryz.ntmps72
  go_wp2_with (go_at_call 95; refine H.out.mono ?_; rintro e w' ⟨rfl, hb⟩)
  go_ret
  exact ⟨rfl, hb⟩

def strconv_FormatUint.f (a0 a1 : Int) : Option ByteArray := if 0 ≤ a0 ∧ a0 < 18446744073709551616 ∧ a1 = 10 then some ⟨(Lib.decDigits a0.toNat).toArray⟩ else none
theorem strconv_FormatUint.calls (a0 a1 : Int) (r : ByteArray) (w : World) (hL : Laid w) (h : strconv_FormatUint.f a0 a1 = some r) :
    Calls Tryz.prog 72 #[.int .u64 a0, .int .i64 a1] w fun e w' => e = .returned (.string r) ∧ Below w.heap.size w w' := by
  unfold strconv_FormatUint.f at h
  split at h
  · rename_i c
    obtain ⟨h0, h1, rfl⟩ := c
    obtain ⟨u, rfl⟩ := Int.eq_ofNat_of_zero_le h0
    obtain rfl := Option.some.inj h
    rw [Int.toNat_natCast]
    exact fmtUint_any u (by omega) w hL.pow
  · cases h
def strconv_FormatInt.f (a0 a1 : Int) : Option ByteArray := if -9223372036854775808 ≤ a0 ∧ a0 ≤ 9223372036854775807 ∧ a1 = 10 then some ⟨(Lib.itoa a0).toArray⟩ else none
theorem strconv_FormatInt.calls (a0 a1 : Int) (r : ByteArray) (w : World) (hL : Laid w) (h : strconv_FormatInt.f a0 a1 = some r) :
    Calls Tryz.prog 74 #[.int .i64 a0, .int .i64 a1] w fun e w' => e = .returned (.string r) ∧ Below w.heap.size w w' := by
  unfold strconv_FormatInt.f at h
  split at h
  · rename_i c
    obtain ⟨h0, h1, rfl⟩ := c
    obtain rfl := Option.some.inj h
    refine (Tryz.strconv_FormatInt_10 a0 h0 h1 w hL.pow).mono ?_
    rintro e w' ⟨rfl, k, os, rfl⟩
    exact ⟨rfl, below_grow0 w k os⟩
  · cases h
def strconv_FormatBool.f (a0 : Bool) : Option ByteArray := some ⟨(Lib.formatBool a0).toArray⟩
theorem strconv_FormatBool.calls (a0 : Bool) (r : ByteArray) (w : World) (h : strconv_FormatBool.f a0 = some r) :
    Calls Tryz.prog 83 #[.bool a0] w fun e w' => e = .returned (.string r) ∧ Below w.heap.size w w' := by
  obtain rfl := Option.some.inj h
  refine (Tryz.strconv_FormatBool a0 w).mono ?_
  rintro e w' ⟨rfl, rfl⟩
  exact ⟨rfl, Below.refl _ _⟩
end Go.Proofs.YthfhkfebkpdkcaaGreatDoor
