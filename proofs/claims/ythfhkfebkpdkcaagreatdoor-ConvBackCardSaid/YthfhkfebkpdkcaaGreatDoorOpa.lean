/- An operation of the conversions' laws, opened to its cells and shut again; no condition. -/
import Derived.Test.YthfhkfebkpdkcaaGreatDoorOps
namespace Go.Proofs.YthfhkfebkpdkcaaGreatDoor
open Go.ChangeShapes Go.WideShapes Go.ChangeAt Go.RowKit Go.Deep

theorem cells_op : Tryz.prog.cellsOf 32 = 4 := by kernel_rfl
section
variable {H : Type} {enc : TypeId × Value → H} {W : World} {base : Nat} {sp : Nat → Bool} {held : Bool}
abbrev opV (x k n : Int) (s : ByteArray) : Value := .agg #[.int .i64 x, .int .i64 k, .int .u64 n, .string s]
abbrev opD (x k n : Int) (s : ByteArray) : DataW H := .agg [.lit (.int .i64 x), valueD k n s]
theorem op_of {fuel : Nat} {cs : List Value} {y : DataW H × List MemPlace} (h : DataW.trod enc Tryz.prog W base sp held fuel 32 cs = some y) :
    ∃ x k n s, cs = [.int .i64 x, .int .i64 k, .int .u64 n, .string s] ∧ y = (opD x k n s, []) ∧ (Lit.int .i64 x).wf = true ∧ (Lit.int .i64 k).wf = true ∧ (Lit.int .u64 n).wf = true ∧ s.size ≤ maxLen := by
  obtain ⟨y0, y1, m, rfl, hl, h0, h1⟩ := trod_struct2 Tryz.underlying32 h
  obtain ⟨a, b, c, d, rfl⟩ := list4 (hl.trans cells_op)
  simp only [cells_int, cells_value] at h0 h1
  obtain ⟨x, e0, rfl, w0⟩ := DataW.trod_int Tryz.underlying3 h0
  obtain ⟨k, n, s, e1, rfl, w1, w2, w3⟩ := value_of h1
  obtain rfl : a = .int .i64 x := by simpa using e0
  have e : [b, c, d] = [.int .i64 k, .int .u64 n, .string s] := by simpa using e1
  cases e
  exact ⟨x, k, n, s, rfl, by simp, w0, w1, w2, w3⟩
theorem op_mk {m : Nat} {x k n : Int} {s : ByteArray} (w0 : (Lit.int .i64 x).wf = true) (w1 : (Lit.int .i64 k).wf = true) (w2 : (Lit.int .u64 n).wf = true) (w3 : s.size ≤ maxLen) :
    DataW.trod enc Tryz.prog W base sp held (m + 3) 32 [.int .i64 x, .int .i64 k, .int .u64 n, .string s] = some (opD x k n s, []) := by
  refine (trod_struct2_mk (n := m + 2) (cs := [.int .i64 x, .int .i64 k, .int .u64 n, .string s]) (y0 := (.lit (.int .i64 x), [])) (y1 := (valueD k n s, [])) Tryz.underlying32 cells_op.symm ?_ ?_).trans (by simp)
  · simp only [cells_int]
    exact trod_int_mk (m + 1) Tryz.underlying3 w0
  · simp only [cells_value]
    exact value_mk w1 w2 w3
set_option maxRecDepth 100000 in
theorem open_op {r : Reach} {b0 : Nat} {v : Value} {d : DataW H} {p : List MemPlace} (hv : Value.okWide Tryz.prog W r b0 32 v) (h : DataW.Trod enc Tryz.prog W base sp held 32 v d p) :
    ∃ x k n s, v = opV x k n s ∧ d = opD x k n s ∧ p = [] ∧ (Lit.int .i64 x).wf = true ∧ (Lit.int .i64 k).wf = true ∧ (Lit.int .u64 n).wf = true ∧ s.size ≤ maxLen := by
  obtain ⟨cs, rfl, _⟩ := okWide_struct Tryz.underlying32 hv
  obtain ⟨fuel, hf⟩ := h
  obtain ⟨x, k, n, s, e, q, w0, w1, w2, w3⟩ := op_of hf
  simp only [Prod.mk.injEq] at q
  refine ⟨x, k, n, s, ?_, q.1, q.2, w0, w1, w2, w3⟩
  obtain ⟨l⟩ := cs
  cases (show l = [.int .i64 x, .int .i64 k, .int .u64 n, .string s] from e)
  rfl
theorem shut_op {x k n : Int} {s : ByteArray} (w0 : (Lit.int .i64 x).wf = true) (w1 : (Lit.int .i64 k).wf = true) (w2 : (Lit.int .u64 n).wf = true) (w3 : s.size ≤ maxLen) :
    DataW.Trod enc Tryz.prog W base sp held 32 (opV x k n s) (opD x k n s) [] := ⟨3, op_mk w0 w1 w2 w3⟩
end
end Go.Proofs.YthfhkfebkpdkcaaGreatDoor
