/- A value of three fields, opened to its cells and shut again; no condition. An operation of the conversions' laws, opened to its cells and shut again; no condition. -/
import Derived.Test.YthfhkfebkpdkcaaGreatDoorVFrame
import Derived.Deep.Strs
namespace Go.Proofs.YthfhkfebkpdkcaaGreatDoor
open Go.ChangeShapes Go.WideShapes Go.ChangeAt Go.RowKit Go.Deep

/-! ### A value and an operation, read and laid -/
theorem cells_int : Tryz.prog.cellsOf 3 = 1 := by kernel_rfl
theorem cells_u64 : Tryz.prog.cellsOf 25 = 1 := by kernel_rfl
theorem cells_str : Tryz.prog.cellsOf 9 = 1 := by kernel_rfl
theorem cells_value : Tryz.prog.cellsOf 27 = 3 := by kernel_rfl
section
variable {H : Type} {enc : TypeId × Value → H} {W : World} {base : Nat} {sp : Nat → Bool} {held : Bool}
theorem trod_text {m : Nat} {s : ByteArray} (hs : s.size ≤ maxLen) : DataW.trod enc Tryz.prog W base sp held (m + 1) 9 [.string s] = some (.lit (.string s.data.toList), []) := by
  simp [DataW.trod, Tryz.underlying9, hs]
theorem list3 {α : Type} {l : List α} (h : l.length = 3) : ∃ a b c, l = [a, b, c] := by
  match l, h with
  | [a, b, c], _ => exact ⟨a, b, c, rfl⟩
theorem list4 {α : Type} {l : List α} (h : l.length = 4) : ∃ a b c d, l = [a, b, c, d] := by
  match l, h with
  | [a, b, c, d], _ => exact ⟨a, b, c, d, rfl⟩
abbrev valueD (k n : Int) (s : ByteArray) : DataW H := .agg [.lit (.int .i64 k), .lit (.int .u64 n), .lit (.string s.data.toList)]
theorem value_of {fuel : Nat} {cs : List Value} {x : DataW H × List MemPlace} (h : DataW.trod enc Tryz.prog W base sp held fuel 27 cs = some x) :
    ∃ k n s, cs = [.int .i64 k, .int .u64 n, .string s] ∧ x = (valueD k n s, []) ∧ (Lit.int .i64 k).wf = true ∧ (Lit.int .u64 n).wf = true ∧ s.size ≤ maxLen := by
  obtain ⟨y0, y1, y2, m, rfl, hl, h0, h1, h2⟩ := trod_struct3 Tryz.underlying27 h
  obtain ⟨a, b, c, rfl⟩ := list3 (hl.trans cells_value)
  simp only [cells_int, cells_u64, cells_str] at h0 h1 h2
  obtain ⟨k, e0, rfl, w0⟩ := DataW.trod_int Tryz.underlying3 h0
  obtain ⟨n, e1, rfl, w1⟩ := DataW.trod_int Tryz.underlying25 h1
  obtain ⟨s, e2, rfl, w2⟩ := DataW.trod_string Tryz.underlying9 h2
  obtain rfl : a = .int .i64 k := by simpa using e0
  obtain rfl : b = .int .u64 n := by simpa using e1
  obtain rfl : c = .string s := by simpa using e2
  exact ⟨k, n, s, rfl, by simp, w0, w1, w2⟩
theorem value_mk {m : Nat} {k n : Int} {s : ByteArray} (w0 : (Lit.int .i64 k).wf = true) (w1 : (Lit.int .u64 n).wf = true) (w2 : s.size ≤ maxLen) :
    DataW.trod enc Tryz.prog W base sp held (m + 2) 27 [.int .i64 k, .int .u64 n, .string s] = some (valueD k n s, []) := by
  refine (trod_struct3_mk (n := m + 1) (cs := [.int .i64 k, .int .u64 n, .string s]) (y0 := (.lit (.int .i64 k), [])) (y1 := (.lit (.int .u64 n), [])) (y2 := (.lit (.string s.data.toList), [])) Tryz.underlying27 cells_value.symm ?_ ?_ ?_).trans (by simp)
  · simp only [cells_int]
    exact trod_int_mk m Tryz.underlying3 w0
  · simp only [cells_u64]
    exact trod_int_mk m Tryz.underlying25 w1
  · simp only [cells_str]
    exact trod_text w2
end
end Go.Proofs.YthfhkfebkpdkcaaGreatDoor
namespace Go.Proofs.YthfhkfebkpdkcaaGreatDoor
open Go.ChangeShapes Go.WideShapes Go.ChangeAt Go.RowKit Go.Deep

theorem cells_op : Tryz.prog.cellsOf 32 = 4 := by kernel_rfl
section
variable {H : Type} {enc : TypeId × Value → H} {W : World} {base : Nat} {sp : Nat → Bool} {held : Bool}
abbrev opV (x k n : Int) (s : ByteArray) : Value := .agg #[.int .i64 x, .int .i64 k, .int .u64 n, .string s]
abbrev opD (x k n : Int) (s : ByteArray) : DataW H := .agg [.lit (.int .i64 x), valueD k n s]
theorem op_of {fuel : Nat} {cs : List Value} {y : DataW H × List MemPlace} (h : DataW.trod enc Tryz.prog W base sp held fuel 32 cs = some y) :
    ∃ x k n s, cs = [.int .i64 x, .int .i64 k, .int .u64 n, .string s] ∧ y = (opD x k n s, []) ∧ (Lit.int .i64 x).wf = true ∧ (Lit.int .i64 k).wf = true ∧ (Lit.int .u64 n).wf = true ∧ s.size ≤ maxLen := by
  obtain ⟨y0, y1, m, rfl, hl, h0, h1⟩ := trod_struct2 Tryz.underlying32 h
  obtain ⟨a, b, c, d, rfl⟩ := list4 (hl.trans cells_op)
  simp only [cells_int, cells_value] at h0 h1
  obtain ⟨x, e0, rfl, w0⟩ := DataW.trod_int Tryz.underlying3 h0
  obtain ⟨k, n, s, e1, rfl, w1, w2, w3⟩ := value_of h1
  obtain rfl : a = .int .i64 x := by simpa using e0
  have e : [b, c, d] = [.int .i64 k, .int .u64 n, .string s] := by simpa using e1
  cases e
  exact ⟨x, k, n, s, rfl, by simp, w0, w1, w2, w3⟩
theorem op_mk {m : Nat} {x k n : Int} {s : ByteArray} (w0 : (Lit.int .i64 x).wf = true) (w1 : (Lit.int .i64 k).wf = true) (w2 : (Lit.int .u64 n).wf = true) (w3 : s.size ≤ maxLen) :
    DataW.trod enc Tryz.prog W base sp held (m + 3) 32 [.int .i64 x, .int .i64 k, .int .u64 n, .string s] = some (opD x k n s, []) := by
  refine (trod_struct2_mk (n := m + 2) (cs := [.int .i64 x, .int .i64 k, .int .u64 n, .string s]) (y0 := (.lit (.int .i64 x), [])) (y1 := (valueD k n s, [])) Tryz.underlying32 cells_op.symm ?_ ?_).trans (by simp)
  · simp only [cells_int]
    exact trod_int_mk (m + 1) Tryz.underlying3 w0
  · simp only [cells_value]
    exact value_mk w1 w2 w3
set_option maxRecDepth 100000 in
theorem open_op {r : Reach} {b0 : Nat} {v : Value} {d : DataW H} {p : List MemPlace} (hv : Value.okWide Tryz.prog W r b0 32 v) (h : DataW.Trod enc Tryz.prog W base sp held 32 v d p) :
    ∃ x k n s, v = opV x k n s ∧ d = opD x k n s ∧ p = [] ∧ (Lit.int .i64 x).wf = true ∧ (Lit.int .i64 k).wf = true ∧ (Lit.int .u64 n).wf = true ∧ s.size ≤ maxLen := by
  obtain ⟨cs, rfl, _⟩ := okWide_struct Tryz.underlying32 hv
  obtain ⟨fuel, hf⟩ := h
  obtain ⟨x, k, n, s, e, q, w0, w1, w2, w3⟩ := op_of hf
  simp only [Prod.mk.injEq] at q
  refine ⟨x, k, n, s, ?_, q.1, q.2, w0, w1, w2, w3⟩
  obtain ⟨l⟩ := cs
  cases (show l = [.int .i64 x, .int .i64 k, .int .u64 n, .string s] from e)
  rfl
theorem shut_op {x k n : Int} {s : ByteArray} (w0 : (Lit.int .i64 x).wf = true) (w1 : (Lit.int .i64 k).wf = true) (w2 : (Lit.int .u64 n).wf = true) (w3 : s.size ≤ maxLen) :
    DataW.Trod enc Tryz.prog W base sp held 32 (opV x k n s) (opD x k n s) [] := ⟨3, op_mk w0 w1 w2 w3⟩
end
end Go.Proofs.YthfhkfebkpdkcaaGreatDoor
