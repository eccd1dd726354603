/- A value of three fields, opened to its cells and shut again; no condition. An operation of the conversions' laws, opened to its cells and shut again; no condition. -/
import Derived.Test.YthfhkfebkpdkcaaGreatDoorUFrame
import Derived.Deep.Strs
namespace Go.Proofs.YthfhkfebkpdkcaaGreatDoor
open Go.ChangeShapes Go.WideShapes Go.ChangeAt Go.RowKit Go.Deep

/-! ### A value and an operation, read and laid -/
theorem cells_int : Tryz.prog.cellsOf 3 = 1 := by kernel_rfl
theorem cells_u64 : Tryz.prog.cellsOf 25 = 1 := by kernel_rfl
theorem cells_str : Tryz.prog.cellsOf 9 = 1 := by kernel_rfl
theorem cells_value : Tryz.prog.cellsOf 27 = 3 := by kernel_rfl
section
variable {H : Type} {enc : TypeId × Value → H} {W : World} {base : Nat} {sp : Nat → Bool} {held : Bool}
theorem list3 {α : Type} {l : List α} (h : l.length = 3) : ∃ a b c, l = [a, b, c] := by
  match l, h with
  | [a, b, c], _ => exact ⟨a, b, c, rfl⟩
theorem list4 {α : Type} {l : List α} (h : l.length = 4) : ∃ a b c d, l = [a, b, c, d] := by
  match l, h with
  | [a, b, c, d], _ => exact ⟨a, b, c, d, rfl⟩
abbrev valueD (k n : Int) (s : ByteArray) : DataW H := .agg [.lit (.int .i64 k), .lit (.int .u64 n), .lit (.string s.data.toList)]
theorem value_of {fuel : Nat} {cs : List Value} {x : DataW H × List MemPlace} (h : DataW.trod enc Tryz.prog W base sp held fuel 27 cs = some x) :
    ∃ k n s, cs = [.int .i64 k, .int .u64 n, .string s] ∧ x = (valueD k n s, []) ∧ (Lit.int .i64 k).wf = true ∧ (Lit.int .u64 n).wf = true ∧ s.size ≤ maxLen := by
  obtain ⟨y0, y1, y2, m, rfl, hl, h0, h1, h2⟩ := trod_struct3 Tryz.underlying27 h
  obtain ⟨a, b, c, rfl⟩ := list3 (hl.trans cells_value)
  simp only [cells_int, cells_u64, cells_str] at h0 h1 h2
  obtain ⟨k, e0, rfl, w0⟩ := DataW.trod_int Tryz.underlying3 h0
  obtain ⟨n, e1, rfl, w1⟩ := DataW.trod_int Tryz.underlying25 h1
  obtain ⟨s, e2, rfl, w2⟩ := DataW.trod_string Tryz.underlying9 h2
  obtain rfl : a = .int .i64 k := by simpa using e0
  obtain rfl : b = .int .u64 n := by simpa using e1
  obtain rfl : c = .string s := by simpa using e2
  exact ⟨k, n, s, rfl, by simp, w0, w1, w2⟩
end
end Go.Proofs.YthfhkfebkpdkcaaGreatDoor
namespace Go.Proofs.YthfhkfebkpdkcaaGreatDoor
open Go.ChangeShapes Go.WideShapes Go.ChangeAt Go.RowKit Go.Deep

theorem cells_op : Tryz.prog.cellsOf 32 = 4 := by kernel_rfl
section
variable {H : Type} {enc : TypeId × Value → H} {W : World} {base : Nat} {sp : Nat → Bool} {held : Bool}
abbrev opD (x k n : Int) (s : ByteArray) : DataW H := .agg [.lit (.int .i64 x), valueD k n s]
theorem op_of {fuel : Nat} {cs : List Value} {y : DataW H × List MemPlace} (h : DataW.trod enc Tryz.prog W base sp held fuel 32 cs = some y) :
    ∃ x k n s, cs = [.int .i64 x, .int .i64 k, .int .u64 n, .string s] ∧ y = (opD x k n s, []) ∧ (Lit.int .i64 x).wf = true ∧ (Lit.int .i64 k).wf = true ∧ (Lit.int .u64 n).wf = true ∧ s.size ≤ maxLen := by
  obtain ⟨y0, y1, m, rfl, hl, h0, h1⟩ := trod_struct2 Tryz.underlying32 h
  obtain ⟨a, b, c, d, rfl⟩ := list4 (hl.trans cells_op)
  simp only [cells_int, cells_value] at h0 h1
  obtain ⟨x, e0, rfl, w0⟩ := DataW.trod_int Tryz.underlying3 h0
  obtain ⟨k, n, s, e1, rfl, w1, w2, w3⟩ := value_of h1
  obtain rfl : a = .int .i64 x := by simpa using e0
  have e : [b, c, d] = [.int .i64 k, .int .u64 n, .string s] := by simpa using e1
  cases e
  exact ⟨x, k, n, s, rfl, by simp, w0, w1, w2, w3⟩
end
end Go.Proofs.YthfhkfebkpdkcaaGreatDoor
