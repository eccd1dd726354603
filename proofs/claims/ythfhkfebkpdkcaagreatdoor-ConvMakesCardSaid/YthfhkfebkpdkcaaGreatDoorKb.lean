/- kind.Entries and kind.Name answer the five entries and a kind's name, for every world and number. -/
import Derived.Test.YthfhkfebkpdkcaaGreatDoorKa
import Derived.Laws.ResultCell
import Derived.Outline
namespace Go.Proofs.YthfhkfebkpdkcaaGreatDoor
open Go.RowKit

theorem heap_row (w : World) (c c' : Array Value) (t : TypeId) : ((w.alloc (.cells c t)).setRow w.heap.size c').heap[w.heap.size]? = some (.cells c' t (0, 0)) :=
  setRow_heap _ _ _ _ _ _ (heap_last w _)
theorem below_row {w w1 : World} (h : Below w.heap.size w w1) (o : Obj) (c : Array Value) : Below w.heap.size w ((w1.alloc o).setRow w1.heap.size c) :=
  below_setRow (h.alloc h.size _) h.size _
set_option maxRecDepth 100000 in
set_option maxHeartbeats 1000000 in
/-- kind.Entries: a new row of the five entries. -/
theorem kentries_any (w : World) : Calls Tryz.prog 60 #[] w fun e w' => ∃ g, e = .returned (.slice (some ⟨g, 0, none⟩) 5 5) ∧ w.heap.size ≤ g ∧ w'.heap[g]? = some (.cells filA 93 (0, 0)) ∧ Below w.heap.size w w' := by
  go_enter Tryz.func60, Tryz.ntmps60
  go_wp2_with (first
    | (go_at_call 90; refine (filled_any _).mono ?_; rintro e w1 ⟨rfl, hb⟩; have hA := heap_last w1 (.cells filZ 93))
    | (refine wpList_store_row rfl 93 (.tmp 1) (.tmp 2) rfl w1.heap.size filA rfl rfl 93 filZ hA (by kernel_rfl) (by kernel_rfl) (by kernel_rfl) ?_; have hR := heap_row w1 filZ filA 93; have hB := below_row hb (.cells filZ 93) filA))
  go_ret
  exact ⟨w1.heap.size, rfl, hb.size, hR, hB⟩

theorem ie0 (w : World) : (Instr.index 93 (.agg filA) (.int .i64 0)).run Tryz.prog w = .ok (.agg #[.int .i64 1, .int .i64 1, .string ⟨#[117, 105, 110, 116]⟩, .int .i64 10]) w := by kernel_rfl
theorem ie1 (w : World) : (Instr.index 93 (.agg filA) (.int .i64 1)).run Tryz.prog w = .ok (.agg #[.int .i64 1, .int .i64 2, .string ⟨#[105, 110, 116]⟩, .int .i64 10]) w := by kernel_rfl
theorem ie2 (w : World) : (Instr.index 93 (.agg filA) (.int .i64 2)).run Tryz.prog w = .ok (.agg #[.int .i64 1, .int .i64 3, .string ⟨#[98, 111, 111, 108]⟩, .int .i64 1]) w := by kernel_rfl
theorem ie3 (w : World) : (Instr.index 93 (.agg filA) (.int .i64 3)).run Tryz.prog w = .ok (.agg #[.int .i64 1, .int .i64 4, .string ⟨#[116, 101, 120, 116]⟩, .int .i64 0]) w := by kernel_rfl
theorem ie4 (w : World) : (Instr.index 93 (.agg filA) (.int .i64 4)).run Tryz.prog w = .ok (.agg #[.int .i64 1, .int .i64 5, .string ⟨#[98, 121, 116, 101, 115]⟩, .int .i64 0]) w := by kernel_rfl
/-- A kind's name. -/
def kname (k : Int) : ByteArray := if k = 1 then ⟨#[117, 105, 110, 116]⟩ else if k = 2 then ⟨#[105, 110, 116]⟩ else if k = 3 then ⟨#[98, 111, 111, 108]⟩ else if k = 4 then ⟨#[116, 101, 120, 116]⟩ else if k = 5 then ⟨#[98, 121, 116, 101, 115]⟩ else ⟨#[]⟩
def NameRel (k : Int) (w : World) (i : Value) (wr : World) : Prop :=
  (i = .int .i64 0 ∧ Below w.heap.size w wr) ∨ (i = .int .i64 1 ∧ ((1 : Int) == k) = false ∧ Below w.heap.size w wr) ∨ (i = .int .i64 2 ∧ ((1 : Int) == k) = false ∧ ((2 : Int) == k) = false ∧ Below w.heap.size w wr) ∨ (i = .int .i64 3 ∧ ((1 : Int) == k) = false ∧ ((2 : Int) == k) = false ∧ ((3 : Int) == k) = false ∧ Below w.heap.size w wr) ∨ (i = .int .i64 4 ∧ ((1 : Int) == k) = false ∧ ((2 : Int) == k) = false ∧ ((3 : Int) == k) = false ∧ ((4 : Int) == k) = false ∧ Below w.heap.size w wr) ∨ (i = .int .i64 5 ∧ ((1 : Int) == k) = false ∧ ((2 : Int) == k) = false ∧ ((3 : Int) == k) = false ∧ ((4 : Int) == k) = false ∧ ((5 : Int) == k) = false ∧ Below w.heap.size w wr)
theorem nk {a k : Int} (h : (a == k) = false) : ¬ k = a := fun e => by subst e; simp at h
set_option maxRecDepth 100000 in
set_option maxHeartbeats 1000000 in
theorem kname_any (k : Int) (w : World) : Calls Tryz.prog 53 #[.int .i64 k] w fun e w' => e = .returned (.string (kname k)) ∧ Below w.heap.size w w' := by
  have i0 := ie0
  have i1 := ie1
  have i2 := ie2
  have i3 := ie3
  have i4 := ie4
  go_enter Tryz.func53, Tryz.ntmps53
  go_wp2_with (go_at_call 90; refine (filled_any _).mono ?_; rintro e w1 ⟨rfl, hb⟩)
  go_loopw [6] (fun i wr => NameRel k w i wr) (fun i _ => 5 - (intOf i).toNat)
  case atStart => exact .inl ⟨rfl, hb⟩
  case round =>
    clear hb
    rcases hrel with ⟨rfl, hb⟩ | ⟨rfl, a0, hb⟩ | ⟨rfl, a0, a1, hb⟩ | ⟨rfl, a0, a1, a2, hb⟩ | ⟨rfl, a0, a1, a2, a3, hb⟩ | ⟨rfl, a0, a1, a2, a3, a4, hb⟩
    · by_cases t : ((1 : Int) == k) = true
      · as_aux_lemma =>
        go_wp2
        go_ret
        have e : k = 1 := (beq_iff_eq.1 t).symm
        subst e
        exact ⟨rfl, (hb.alloc hb.size _)⟩
      · as_aux_lemma =>
        replace t : ((1 : Int) == k) = false := by simpa using t
        go_wp2
        go_roundw
        case rel => exact .inr (.inl ⟨rfl, t, hb.alloc hb.size _⟩)
        case measure => simp [intOf]
    · by_cases t : ((2 : Int) == k) = true
      · as_aux_lemma =>
        go_wp2
        go_ret
        have e : k = 2 := (beq_iff_eq.1 t).symm
        subst e
        exact ⟨rfl, (hb.alloc hb.size _)⟩
      · as_aux_lemma =>
        replace t : ((2 : Int) == k) = false := by simpa using t
        go_wp2
        go_roundw
        case rel => exact .inr (.inr (.inl ⟨rfl, a0, t, hb.alloc hb.size _⟩))
        case measure => simp [intOf]
    · by_cases t : ((3 : Int) == k) = true
      · as_aux_lemma =>
        go_wp2
        go_ret
        have e : k = 3 := (beq_iff_eq.1 t).symm
        subst e
        exact ⟨rfl, (hb.alloc hb.size _)⟩
      · as_aux_lemma =>
        replace t : ((3 : Int) == k) = false := by simpa using t
        go_wp2
        go_roundw
        case rel => exact .inr (.inr (.inr (.inl ⟨rfl, a0, a1, t, hb.alloc hb.size _⟩)))
        case measure => simp [intOf]
    · by_cases t : ((4 : Int) == k) = true
      · as_aux_lemma =>
        go_wp2
        go_ret
        have e : k = 4 := (beq_iff_eq.1 t).symm
        subst e
        exact ⟨rfl, (hb.alloc hb.size _)⟩
      · as_aux_lemma =>
        replace t : ((4 : Int) == k) = false := by simpa using t
        go_wp2
        go_roundw
        case rel => exact .inr (.inr (.inr (.inr (.inl ⟨rfl, a0, a1, a2, t, hb.alloc hb.size _⟩))))
        case measure => simp [intOf]
    · by_cases t : ((5 : Int) == k) = true
      · as_aux_lemma =>
        go_wp2
        go_ret
        have e : k = 5 := (beq_iff_eq.1 t).symm
        subst e
        exact ⟨rfl, (hb.alloc hb.size _)⟩
      · as_aux_lemma =>
        replace t : ((5 : Int) == k) = false := by simpa using t
        go_wp2
        go_roundw
        case rel => exact .inr (.inr (.inr (.inr (.inr (⟨rfl, a0, a1, a2, a3, t, hb.alloc hb.size _⟩)))))
        case measure => simp [intOf]
    · as_aux_lemma =>
      have e : kname k = ⟨#[]⟩ := by unfold kname; rw [if_neg (nk a0), if_neg (nk a1), if_neg (nk a2), if_neg (nk a3), if_neg (nk a4)]
      go_wp2
      go_ret
      exact ⟨by rw [e]; rfl, hb⟩
end Go.Proofs.YthfhkfebkpdkcaaGreatDoor
